/- An own logic over the kit's weakest preconditions, part S: rules for single operations on objects of the store; rules for code with explicit ends. Conditions: none. -/
import Derived.Test.YtonbnfgknijpoaaGgR
namespace Go.Gg
open Go.RowKit (Below)

theorem vr {v : AV} : VW v v := VW.refl v
theorem fc {t : Env} {k : Nat} {v : AV} {l : List (Nat × AV)} (h : VW (t k) v) (h' : Fit t l) : Fit t ((k, v) :: l) := ⟨h, h'⟩
theorem fn {t : Env} : Fit t [] := trivial
theorem vl' {a b : AV} {l m : List AV} (h : VW a b) (h' : VWL l m) : VWL (a :: l) (b :: m) := ⟨h, h'⟩
theorem vn : VWL [] [] := trivial
theorem sc {l m : Objs} {k : Nat} {x : GObj × Nat} (h : lkp l k = some x) (h' : SubL l m) : SubL l ((k, x) :: m) := ⟨h, h'⟩
theorem sn {l : Objs} : SubL l [] := trivial
theorem VW.slen {kk r k g off n m : Nat} (h : n = m) : VW (.sl kk r k g off n) (.sl kk r k g off m) := by subst h; exact VW.refl _
theorem len_set' {α : Type} (l : List α) (i : Int) (x : α) : (set' l i x).length = l.length := by simp [set']
theorem len_rep' {α : Type} (n : Int) (x : α) : (rep' n x).length = n.toNat := by simp [rep']
theorem lt_of {i : Int} {n m : Nat} (h : 0 ≤ i ∧ i < (n : Int)) (e : n = m) : i.toNat < m := by omega

/-! ### Code with explicit ends -/
section
variable {P : Program} {n : Nat} {nrm ret : Env → St → Prop} {ex : Nat → Env → St → Prop} {t : Env} {S : St} {x y : Code}
theorem Vc.skip' (h : nrm t S) : Vc P n .skip ⟨nrm, ex, ret⟩ t S := Vc.skip h
theorem Vc.seq' (h : Vc P n x ⟨Vc P n y ⟨nrm, ex, ret⟩, ex, ret⟩ t S) : Vc P n (.seq x y) ⟨nrm, ex, ret⟩ t S := Vc.seq h
theorem Vc.cond' {c : Operand} {v : Bool} (hc : ev t c = .bool v) (h1 : v = true → Vc P n x ⟨nrm, ex, ret⟩ t S) (h2 : v = false → Vc P n y ⟨nrm, ex, ret⟩ t S) : Vc P n (.cond c x y) ⟨nrm, ex, ret⟩ t S := Vc.cond hc h1 h2
theorem Vc.condT {c : Operand} {v : Bool} (hc : ev t c = .bool v) (hv : v = true) (h1 : Vc P n x ⟨nrm, ex, ret⟩ t S) : Vc P n (.cond c x y) ⟨nrm, ex, ret⟩ t S := Vc.cond hc (fun _ => h1) (fun h => by rw [hv] at h; cases h)
theorem Vc.condF {c : Operand} {v : Bool} (hc : ev t c = .bool v) (hv : v = false) (h1 : Vc P n y ⟨nrm, ex, ret⟩ t S) : Vc P n (.cond c x y) ⟨nrm, ex, ret⟩ t S := Vc.cond hc (fun h => by rw [hv] at h; cases h) (fun _ => h1)
theorem Vc.exit' {id : Nat} (h : ex id t S) : Vc P n (.exit id) ⟨nrm, ex, ret⟩ t S := Vc.exit h
theorem Vc.ret' (h : ret t S) : Vc P n .ret ⟨nrm, ex, ret⟩ t S := Vc.ret h
theorem Vc.region' {id : Nat} {l : List Oper} (h : Wl P n l l nrm t S) : Vc P n (.region id l.toArray false) ⟨nrm, ex, ret⟩ t S := Vc.region h
theorem Vc.loop' {σ : Type} (I : σ → Prop) (μ : σ → Nat) (T : σ → Env) (Z : σ → St) (z : σ) (hx : EWk t S (T z) (Z z)) (h0 : I z)
    (h : ∀ y, I y → Vc P n x ⟨fun t S => ∃ z, EWk t S (T z) (Z z) ∧ I z ∧ μ z < μ y, ex, ret⟩ (T y) (Z y)) : Vc P n (.loop x) ⟨nrm, ex, ret⟩ t S := Vc.loop I μ T Z z hx h0 h
theorem Vc.join' {σ : Type} (J : σ → Prop) (T : σ → Env) (Z : σ → St) (hK : ∀ z, J z → Vc P n y ⟨nrm, ex, ret⟩ (T z) (Z z))
    (h : Vc P n x ⟨fun t S => ∃ z, EWk t S (T z) (Z z) ∧ J z, ex, ret⟩ t S) : Vc P n (.seq x y) ⟨nrm, ex, ret⟩ t S :=
  Vc.seq (Vc.join (Q := ⟨nrm, ex, ret⟩) J T Z _ (fun z hz _ _ hw => Vc.wk hw (hK z hz)) h)
theorem Wl.guardT {ops rest : List Oper} {K : Env → St → Prop} {d : Option Nat} {op : Op} {ty : TypeId} {pos : String} {after : Array Edge} {j g : Nat} {want b : Bool} (hd : (ops[j]?).bind (·.dst) = some g) (hb : t g = .bool b) (hv : b = want)
    (h1 : Wl P n ops (⟨d, op, ty, pos, after, none⟩ :: rest) K t S) : Wl P n ops (⟨d, op, ty, pos, after, some (j, want)⟩ :: rest) K t S := Wl.guard hd hb (fun _ => h1) (fun h => by subst hv; cases b <;> cases h)
theorem Wl.guardF {ops rest : List Oper} {K : Env → St → Prop} {d : Option Nat} {op : Op} {ty : TypeId} {pos : String} {after : Array Edge} {j g : Nat} {want b b' : Bool} (hd : (ops[j]?).bind (·.dst) = some g) (hb : t g = .bool b) (hv : b = b') (hn : b' = !want)
    (h1 : Wl P n ops rest K (updo t d (.tuple [])) S) : Wl P n ops (⟨d, op, ty, pos, after, some (j, want)⟩ :: rest) K t S := Wl.guard hd hb (fun h => by subst hv hn; cases want <;> cases h) (fun _ => h1)
end

/-! ### Operations -/
section
variable {P : Program} {rg : Nat} {t : Env} {S S0 : St} {L : Objs} {K : AV → St → Prop} {x y i a : Operand} {v : AV} {k : IntKind} {m q : Int} {T T' e : TypeId}
theorem o_convG {d : Option Nat} {s : TypeId} (hs : td P s = .int .i64) (hT : td P T = .int .i64) (hx : ev t x = .int .i64 m) (hb : rng m) (h : K (.int .i64 m) S) : vo P rg d (.convert s T x) t S K := o_conv hs hT hx (by rw [rng_wrap hb]; exact h)
theorem o_assertE {d : Option Nat} {T' : TypeId} {o : Option Int} (hT : td P T = .int .i64) (hok : tyok P T = true) (hz : zav P T = .int .i64 0) (hx : ev t x = eErr T o) (h : K (.tuple [.int .i64 (o.getD 0), .bool o.isSome]) S) : vo P rg d (.typeAssert x T' T true) t S K := by
  rw [vo_assert, hx]
  refine ⟨by rw [hT]; trivial, ?_⟩
  cases o with
  | none => exact ⟨rfl, hok, by rw [hz]; exact h⟩
  | some n => exact ⟨fun _ => h, fun hne => absurd rfl hne⟩
theorem o_idxR0 {d : Option Nat} {kk r k' g c : Nat} (hT : td P T = .slice e) (hs : sz P e = kk) (h0 : 0 < kk) (hx : ev t x = .sl kk r k' g 0 c) (hi : ev t i = .int k m) (hb : 0 ≤ m ∧ m < c) (h : K (.ptr r k' g m.toNat 0) S) : vo P rg d (.indexAddr T x i) t S K :=
  o_idxR hT hs h0 hx hi hb (by rw [Nat.zero_add]; exact h)

theorem o_loadB1 {d : Option Nat} {r k kk g off : Nat} {u : AV} (hS : S r k = some (.arr kk [u], g)) (hs : sz P T = 1) (ha : isAggT P T = false) (hx : ev t x = .ptr r k g 0 off) (hl : Nat.ble (off + 1) kk = true) (hv : u.cells.getD off .junk = v) (h : K v S) : vo P rg d (.load T x) t S K :=
  o_loadR (hS) hs (by omega) (.inr ⟨ha, rfl⟩) hx (by simp) (Nat.le_of_ble_eq_true hl) (by rw [ha]; exact hv) h
theorem o_loadBA {d : Option Nat} {r k kk g off sz' : Nat} {u : AV} (hS : S r k = some (.arr kk [u], g)) (hs : sz P T = sz') (h0 : 0 < sz') (ha : isAggT P T = true) (hx : ev t x = .ptr r k g 0 off) (hl : Nat.ble (off + sz') kk = true) (hv : AV.agg ((u.cells.drop off).take sz') = v) (h : K v S) : vo P rg d (.load T x) t S K :=
  o_loadR (hS) hs h0 (.inl ha) hx (by simp) (Nat.le_of_ble_eq_true hl) (by rw [ha]; exact hv) h
theorem o_loadR1 {d : Option Nat} {α : Type} [Inhabited α] {enc : α → AV} {l : List α} {r k kk g off : Nat} (hS : S r k = some (.arr kk (l.map enc), g)) (hs : sz P T = 1) (ha : isAggT P T = false) (hx : ev t x = .ptr r k g m.toNat off) (hi : m.toNat < l.length) (hl : Nat.ble (off + 1) kk = true)
    (hv : (enc (at' l m)).cells.getD off .junk = v) (h : K v S) : vo P rg d (.load T x) t S K :=
  o_loadR (hS) hs (by omega) (.inr ⟨ha, rfl⟩) hx (by simpa using hi) (Nat.le_of_ble_eq_true hl) (by rw [ha, getD_map hi]; exact hv) h
theorem o_loadRA {d : Option Nat} {α : Type} [Inhabited α] {enc : α → AV} {l : List α} {r k kk g off sz' : Nat} (hS : S r k = some (.arr kk (l.map enc), g)) (hs : sz P T = sz') (h0 : 0 < sz') (ha : isAggT P T = true) (hx : ev t x = .ptr r k g m.toNat off) (hi : m.toNat < l.length) (hl : Nat.ble (off + sz') kk = true)
    (hv : AV.agg (((enc (at' l m)).cells.drop off).take sz') = v) (h : K v S) : vo P rg d (.load T x) t S K :=
  o_loadR (hS) hs h0 (.inl ha) hx (by simpa using hi) (Nat.le_of_ble_eq_true hl) (by rw [ha, getD_map hi]; exact hv) h
theorem o_loadW1 {d : Option Nat} {r k kk g off j : Nat} {es : List AV} (hS : S r k = some (.arr kk es, g)) (hs : sz P T = 1) (ha : isAggT P T = false) (hx : ev t x = .ptr r k g j off) (hi : Nat.ble (j + 1) es.length = true) (hl : Nat.ble (off + 1) kk = true)
    (hv : (es.getD j .junk).cells.getD off .junk = v) (h : K v S) : vo P rg d (.load T x) t S K :=
  o_loadR (hS) hs (by omega) (.inr ⟨ha, rfl⟩) hx (Nat.le_of_ble_eq_true hi) (Nat.le_of_ble_eq_true hl) (by rw [ha]; exact hv) h
theorem o_loadWA {d : Option Nat} {r k kk g off j sz' : Nat} {es : List AV} (hS : S r k = some (.arr kk es, g)) (hs : sz P T = sz') (h0 : 0 < sz') (ha : isAggT P T = true) (hx : ev t x = .ptr r k g j off) (hi : Nat.ble (j + 1) es.length = true) (hl : Nat.ble (off + sz') kk = true)
    (hv : AV.agg (((es.getD j .junk).cells.drop off).take sz') = v) (h : K v S) : vo P rg d (.load T x) t S K :=
  o_loadR (hS) hs h0 (.inl ha) hx (Nat.le_of_ble_eq_true hi) (Nat.le_of_ble_eq_true hl) (by rw [ha]; exact hv) h

theorem o_build {d : Option Nat} {n : Nat} {fs : List (Nat × TypeId)} {z : AV} {szs : List Nat} {parts : List (Nat × Operand)} {ps : List (Nat × AV)} (hT : td P T = .struct fs) (hz : zav P T = z) (hok : (tyok P T && isAggZ (zav P T) && fs.all (fun f => decide (0 < sz P f.2))) = true)
    (hszs : fs.map (fun f => sz P f.2) = szs) (hsT : sz P T = n) (hp : parts.map (fun p => (p.1, ev t p.2)) = ps)
    (hc : (ps.all fun p => p.2.solid && (Nat.beq p.2.cells.length (szs.getD p.1 0) && (Nat.ble (p.1 + 1) fs.length && Nat.ble ((fs.getD p.1 (0, 0)).1 + p.2.cells.length) n))) = true)
    (hv : ps.foldl (fun v p => stv v (fs.getD p.1 (0, 0)).1 p.2) z = v) (h : K v S) : vo P rg d (.build T parts.toArray) t S K := by
  rw [vo_build, vBuild, hT]
  refine ⟨hok, ?_, ?_⟩
  · rw [hp]
    rw [List.all_eq_true] at hc ⊢
    intro p hm
    have := hc p hm
    simp only [Bool.and_eq_true, Nat.ble_eq] at this
    obtain ⟨a1, a2, a3, a4⟩ := this
    replace a2 := Nat.eq_of_beq_eq_true a2
    have e : sz P (fs.getD p.1 (0, 0)).2 = szs.getD p.1 0 := by
      rw [← hszs, List.getD_eq_getElem?_getD, List.getD_eq_getElem?_getD]
      have : p.1 < fs.length := a3
      simp [this]
    simp only [Bool.and_eq_true, beq_iff_eq, decide_eq_true_eq]
    exact ⟨⟨⟨a1, by rw [e]; exact a2⟩, a3⟩, by rw [hsT]; exact a4⟩
  · rw [hp, hz, hv]; exact h

/-! ### Objects of others -/
abbrev Exts := List (Nat × Nat × GObj × Nat)
def stX (S : St) : Exts → St
  | [] => S
  | (r, k, o, g) :: X => St.set (stX S X) r k o g
def DK : List (Nat × Nat) → Prop
  | [] => True
  | p :: X => (∀ q ∈ X, ¬ (q.1 = p.1 ∧ q.2 = p.2)) ∧ DK X
def DX (X : Exts) : Prop := DK (X.map fun p => (p.1, p.2.1))
theorem DX.ne {r' k' g' r k g : Nat} {o' o : GObj} {X : Exts} (h : DX ((r', k', o', g') :: X)) (hm : (r, k, o, g) ∈ X) : ¬ (r = r' ∧ k = k') := h.1 (r, k) (List.mem_map.2 ⟨_, hm, rfl⟩)
theorem stX_at {S : St} {r k g : Nat} {o : GObj} : ∀ {X : Exts} (i : Nat), DX X → X[i]? = some (r, k, o, g) → stX S X r k = some (o, g)
  | [], i, _, h => by simp at h
  | p :: X, 0, _, h => by
    simp at h; subst h
    simp [stX, St.set]
  | (r', k', o', g') :: X, i + 1, hd, h => by
    have hm : (r, k, o, g) ∈ X := List.mem_of_getElem? (by simpa using h)
    have := hd.ne hm
    simp only [stX, St.set]
    rw [if_neg this]
    exact stX_at i hd.2 (by simpa using h)
theorem stX_set {S : St} {r k g g' : Nat} {o o' : GObj} : ∀ {X : Exts} (i : Nat), DX X → X[i]? = some (r, k, o, g) → (stX S X).set r k o' g' = stX S (X.set i (r, k, o', g'))
  | [], i, _, h => by simp at h
  | p :: X, 0, _, h => by
    simp at h; subst h
    simp only [stX, List.set_cons_zero]
    funext a b
    simp only [St.set]
    split <;> rfl
  | (r', k', o2, g2) :: X, i + 1, hd, h => by
    have hm : (r, k, o, g) ∈ X := List.mem_of_getElem? (by simpa using h)
    have hne := hd.ne hm
    simp only [stX, List.set_cons_succ]
    rw [← stX_set i hd.2 (by simpa using h)]
    funext a b
    simp only [St.set]
    by_cases h1 : a = r ∧ b = k
    · obtain ⟨rfl, rfl⟩ := h1
      rw [if_pos ⟨rfl, rfl⟩, if_neg hne, if_pos ⟨rfl, rfl⟩]
    · simp only [if_neg h1]
theorem atL {S0 : St} {rg k g : Nat} {l : Objs} {o : GObj} (h : lkp l k = some (o, g)) : stL S0 rg l rg k = some (o, g) := by rw [stL_at]; exact h
theorem setL {S0 : St} {rg k g : Nat} {l : Objs} {o : GObj} : (stL S0 rg l).set rg k o g = stL S0 rg ((k, o, g) :: l) := stL_set
theorem atX {S : St} {rg r k g : Nat} {X : Exts} {l : Objs} {o : GObj} (hne : r ≠ rg) (hd : DX X) (i : Nat) (h : X[i]? = some (r, k, o, g)) : stL (stX S X) rg l r k = some (o, g) := by rw [stL_ne hne]; exact stX_at i hd h
theorem setX {S : St} {rg r k g g' : Nat} {X X' : Exts} {l : Objs} {o o' : GObj} (hne : r ≠ rg) (hd : DX X) (i : Nat) (h : X[i]? = some (r, k, o, g)) (hX : X.set i (r, k, o', g') = X') : (stL (stX S X) rg l).set r k o' g' = stL (stX S X') rg l := by
  subst hX
  rw [← stX_set i hd h]
  funext a b
  simp only [St.set, stL]
  by_cases h1 : a = rg
  · subst h1
    have : ¬ (a = r ∧ b = k) := fun h => hne h.1.symm
    simp [this]
  · simp [h1]
theorem fresh_ne {S : St} {rg r k g : Nat} {X : Exts} {o : GObj} (hd : DX X) (hrg : ∀ k, stX S X rg k = none) (i : Nat) (h : X[i]? = some (r, k, o, g)) : r ≠ rg := by
  rintro rfl
  have := stX_at (S := S) i hd h
  rw [hrg] at this
  cases this
theorem fresh_set {S : St} {rg : Nat} : ∀ {X X' : Exts}, X.map (fun p => (p.1, p.2.1)) = X'.map (fun p => (p.1, p.2.1)) → (∀ k, stX S X rg k = none) → ∀ k, stX S X' rg k = none
  | [], [], _, h => h
  | [], _ :: _, e, _ => by simp at e
  | _ :: _, [], e, _ => by simp at e
  | (r, k, o, g) :: X, (r', k', o', g') :: X', e, h => fun j => by
    simp only [List.map_cons, List.cons.injEq, Prod.mk.injEq] at e
    obtain ⟨⟨rfl, rfl⟩, e⟩ := e
    have h1 := h j
    simp only [stX, St.set] at h1 ⊢
    by_cases hc : rg = r ∧ j = k
    · rw [if_pos hc] at h1; cases h1
    · rw [if_neg hc] at h1 ⊢
      refine fresh_set e (fun j => ?_) j
      have h2 := h j
      simp only [stX, St.set] at h2
      by_cases hc2 : rg = r ∧ j = k
      · rw [if_pos hc2] at h2; cases h2
      · rw [if_neg hc2] at h2; exact h2
theorem ctrX {P : Program} {f : FuncId} {as : List AV} {S S' : St} {R : AV → St → Prop} (e : S' = S) (h : Ctr P f as S' R) : Ctr P f as S R := e ▸ h
theorem Wl.eqS {P : Program} {n : Nat} {ops l : List Oper} {K : Env → St → Prop} {t : Env} {S S' : St} (e : S = S') (h : Wl P n ops l K t S') : Wl P n ops l K t S := e ▸ h
theorem stX_same1 {S : St} {r k g : Nat} {o : GObj} (h : S r k = some (o, g)) : stX S [(r, k, o, g)] = S := by
  funext a b
  simp only [stX, St.set]
  split
  · rename_i hc; obtain ⟨rfl, rfl⟩ := hc; exact h.symm
  · rfl
/-- A row is given out for good. -/
theorem Rel.moveOut {G : Ghost} {S : St} {w : World} {rg k0 g : Nat} {l : Objs} {o : GObj} (h : Rel G (stL S rg l) w) (hrg : ∀ k, S rg k = none) (hS : lkp l k0 = some (o, g)) (q k : Nat) :
    ∃ g' G', G.le G' ∧ Rel G' (S.set q k o g') w ∧ ∀ kk off n x, VR G (.sl kk rg k0 g off n) x → VR G' (.sl kk q k g' off n) x := by
  obtain ⟨g', hg'⟩ := h.fresh q k
  obtain ⟨L, hL, hobj, hown⟩ := h.obj rg k0 o g (by rw [stL_at]; exact hS)
  let G' : Ghost := { G with loc := fun r2 k2 g2 => if r2 = q ∧ k2 = k ∧ g2 = g' then some L else G.loc r2 k2 g2 }
  have hle : G.le G' := by
    refine ⟨rfl, fun _ _ _ e => e, fun r2 k2 g2 L2 e => ?_⟩
    show (if r2 = q ∧ k2 = k ∧ g2 = g' then some L else G.loc r2 k2 g2) = some L2
    split
    · rename_i hc; obtain ⟨rfl, rfl, rfl⟩ := hc; rw [hg'] at e; cases e
    · exact e
  have hloc : G'.loc q k g' = some L := by
    show (if q = q ∧ k = k ∧ g' = g' then some L else _) = _
    rw [if_pos ⟨rfl, rfl, rfl⟩]
  have hold : ∀ {r2 k2 o2 g2}, S r2 k2 = some (o2, g2) → stL S rg l r2 k2 = some (o2, g2) := fun {r2 k2 o2 g2} e => by
    have hne : r2 ≠ rg := by rintro rfl; rw [hrg] at e; cases e
    rw [stL_ne hne]; exact e
  refine ⟨g', G', hle, ⟨h.below, h.imm, ?_, ?_, ?_, ?_⟩, ?_⟩
  · intro r2 k2 o2 g2 e
    simp only [St.set] at e
    split at e
    · rename_i hc; obtain ⟨rfl, rfl⟩ := hc; cases e
      exact ⟨L, hloc, hobj.keep hle (fun _ => rfl), hown⟩
    · obtain ⟨L2, q1, q2, q3⟩ := h.obj _ _ _ _ (hold e)
      exact ⟨L2, hle.loc _ _ _ _ q1, q2.keep hle (fun _ => rfl), q3⟩
  · intro r1 k1 o1 g1 r2 k2 o2 g2 L1 L2 e1 e2 l1 l2 c1 c2 hne
    have src : ∀ {r2 k2 o2 g2 L2}, (S.set q k o g') r2 k2 = some (o2, g2) → G'.loc r2 k2 g2 = some L2 → (r2 = q ∧ k2 = k ∧ L2 = L) ∨ (¬ (r2 = q ∧ k2 = k) ∧ S r2 k2 = some (o2, g2) ∧ ∃ L3, G.loc r2 k2 g2 = some L3 ∧ L2 = L3) := by
      intro r2 k2 o2 g2 L2 e l2
      simp only [St.set] at e
      split at e
      · rename_i hc; obtain ⟨rfl, rfl⟩ := hc; cases e; rw [hloc] at l2; exact .inl ⟨rfl, rfl, (Option.some.inj l2).symm⟩
      · rename_i hc
        obtain ⟨L3, q1, _⟩ := h.obj _ _ _ _ (hold e)
        have := hle.loc _ _ _ _ q1
        rw [this] at l2
        exact .inr ⟨hc, e, L3, q1, (Option.some.inj l2).symm⟩
    rcases src e1 l1 with ⟨rfl, rfl, rfl⟩ | ⟨hn1, f1, L3, m1, rfl⟩
    · rcases src e2 l2 with ⟨rfl, rfl, rfl⟩ | ⟨hn2, f2, L4, m2, rfl⟩
      · exact absurd ⟨rfl, rfl⟩ hne
      · have hr2 : r2 ≠ rg := by rintro rfl; rw [hrg] at f2; cases f2
        exact h.inj rg k0 o g r2 k2 o2 g2 _ _ (by rw [stL_at]; exact hS) (hold f2) hL m2 c1 c2 (fun hc => hr2 hc.1.symm)
    · rcases src e2 l2 with ⟨rfl, rfl, rfl⟩ | ⟨hn2, f2, L4, m2, rfl⟩
      · have hr1 : r1 ≠ rg := by rintro rfl; rw [hrg] at f1; cases f1
        exact h.inj r1 k1 o1 g1 rg k0 o g _ _ (hold f1) (by rw [stL_at]; exact hS) m1 hL c1 c2 (fun hc => hr1 hc.1)
      · exact h.inj _ _ _ _ _ _ _ _ _ _ (hold f1) (hold f2) m1 m2 c1 c2 hne
  · obtain ⟨N, hN⟩ := h.fin
    refine ⟨max N (max (q + 1) (rg + 1)), fun r2 hr k2 => ?_⟩
    have hne : r2 ≠ rg := by omega
    have h1 := hN r2 (by omega) k2
    rw [stL_ne hne] at h1
    simp only [St.set]
    rw [if_neg (fun hc => by omega)]
    exact h1
  · intro r2 k2
    obtain ⟨N, hN⟩ := h.fing r2 k2
    refine ⟨max N (g' + 1), fun g2 hg2 => ?_⟩
    show (if r2 = q ∧ k2 = k ∧ g2 = g' then some L else G.loc r2 k2 g2) = none
    rw [if_neg (fun hc => by omega)]
    exact hN g2 (by omega)
  · intro kk off n x hv
    cases hv with
    | sl _ _ _ _ _ _ a L' h1 h2 h3 h4 h5 =>
      rw [hL] at h1; cases h1
      exact .sl (G := G') kk q k g' off n a _ hloc h2 h3 h4 h5
theorem gives_own {R : AV → St → Prop} {S : St} {rg k0 g kk n : Nat} {l : Objs} {o : GObj} (q k : Nat) (hrg : ∀ k, S rg k = none) (hS : lkp l k0 = some (o, g)) (h : ∀ g', R (.sl kk q k g' 0 n) (S.set q k o g')) : Gives R (.sl kk rg k0 g 0 n) (stL S rg l) := fun G w x hr hv => by
  obtain ⟨g', G', a1, a2, a3⟩ := hr.moveOut hrg hS q k
  exact ⟨_, _, G', h g', a1, a2, a3 _ _ _ _ hv⟩
theorem o_idxRO {P : Program} {rg : Nat} {t : Env} {S : St} {K : AV → St → Prop} {x i : Operand} {kd : IntKind} {m : Int} {T e : TypeId} {d : Option Nat} {kk r k' g off c : Nat} (hT : td P T = .slice e) (hs : sz P e = kk) (h0 : 0 < kk) (hx : ev t x = .sl kk r k' g off c) (hi : ev t i = .int kd m) (hb : 0 ≤ m ∧ m < c) (h : K (.ptr r k' g ((off : Int) + m).toNat 0) S) : vo P rg d (.indexAddr T x i) t S K :=
  o_idxR hT hs h0 hx hi hb (by
    have : off + m.toNat = ((off : Int) + m).toNat := by omega
    rw [this]; exact h)
/-! ### A list compared with nil -/
theorem run_eqIn_slnil {P : Program} {w : World} {T e : TypeId} {a : Option Addr} {n c : Nat} (hu : P.underlying T = some (.slice e)) (d : Nat) : (Op.equalIn (d + 1) T (.slice a n c) (.slice none 0 0)).run P w = .ok a.isNone w := by
  cases a <;> simp only [Op.equalIn, Sem.run_bind, run_underlying hu, Result.andThen_ok, Sem.run_pure] <;> rfl
theorem run_eq_slnil {P : Program} {w : World} {T e : TypeId} {a : Option Addr} {n c : Nat} (hu : P.underlying T = some (.slice e)) : (Op.equal T (.slice a n c) (.slice none 0 0)).run P w = .ok a.isNone w := by
  unfold Op.equal Op.maxDepth
  exact run_eqIn_slnil hu 9999
theorem Wl.stepS {P : Program} {n : Nat} {ops rest : List Oper} {K : Env → St → Prop} {o : Oper} {t : Env} {S : St} (hv : SOp P n o t S (fun v S' => Wl P n ops rest K (updo t o.dst v) S')) (hg : o.guard = none) : Wl P n ops (o :: rest) K t S := by
  intro hok G a w Q hr ht hQ
  have hdo := hok o (by simp)
  have hok2 : ∀ o ∈ rest, ∀ d, o.dst = some d → d < n := fun o ho => hok o (by simp [ho])
  unfold wpList
  rw [if_pos (by simp [Region.wanted, hg])]
  refine .inl (hv G a w _ Q hr ht (fun v av S' G' w' hk hle hr' hav => ?_))
  exact hk hok2 G' _ w' Q hr' ((ht.mono hle).put hdo hav) (fun a w hl => hQ a w (Gg.lift_mono hl hle))
theorem Wl.isnil {P : Program} {n : Nat} {ops rest : List Oper} {K : Env → St → Prop} {d : Option Nat} {ty : TypeId} {pos : String} {after : Array Edge} {t : Env} {S : St} {α : Type} {enc : α → AV} {l : List α} {T T' e : TypeId} {x y : Operand}
    (hT : td P T = .slice e) (hx : ev t x = eL enc l) (hy : ev t y = .nil) (h : ∀ b : Bool, (b = true → l = []) → Wl P n ops rest K (updo t d (.bool b)) S) : Wl P n ops (⟨d, .binOp .eql T x y T', ty, pos, after, none⟩ :: rest) K t S := by
  refine Wl.stepS (QOp.sop ?_) rfl
  intro G ρ w hr he
  have h1 := he x
  have h2 := he y
  rw [hx] at h1
  rw [hy] at h2
  generalize hvx : ρ x = vx at h1
  generalize hvy : ρ y = vy at h2
  cases h2
  cases h1 with
  | list _ a m cap c z k u q1 q2 q3 q4 q5 q6 q7 =>
  refine ⟨.bool a.isNone, .bool a.isNone, ?_, h _ (fun hn => ?_), .bool _⟩
  · have hg : (eqGuard .eql T x y (.slice a m cap) (.slice none 0 0)).run P w = .ok () w := rfl
    have hb : (do eqGuard .eql T x y (.slice a m cap) (.slice none 0 0); binOp .eql T (.slice a m cap) (.slice none 0 0) : Sem Value).run P w = .ok (.bool a.isNone) w := by
      simp only [Sem.run_bind, hg, Result.andThen_ok]
      exact run_binOp_eq (run_eq_slnil (P := P) (w := w) (T := T) (a := a) (n := m) (c := cap) (td_slice hT))
    have hl : ∀ (s : Sem Value) (v : Value), s.run P w = .ok v w → ((do pure (.value (← s))) : Sem Next).run P w = .ok (.value v) w := by
      intro s v h1
      simp [h1]
    show ((do pure (.value (← (do eqGuard .eql T x y (ρ x) (ρ y); binOp .eql T (ρ x) (ρ y))))) : Sem Next).run P w = _
    rw [hvx, hvy]
    exact hl _ _ hb
  · cases hl : l with
    | nil => rfl
    | cons b l' =>
      have : 0 < m := by rw [q1, hl]; simp
      rw [q4 this] at hn
      cases hn
theorem o_indexS {P : Program} {rg : Nat} {t : Env} {S : St} {K : AV → St → Prop} {x i : Operand} {kd : IntKind} {m : Int} {T : TypeId} {d : Option Nat} {s : ByteArray} (hT : td P T = .str) (hx : ev t x = .str s) (hi : ev t i = .int kd m) (hb : 0 ≤ m ∧ m < s.size) (h : K (.int .u8 (byteAt s m.toNat)) S) : vo P rg d (.index T x i) t S K := by
  rw [vo_index, hx, hi, vIndex, hT]
  exact ⟨hb, h⟩
theorem dx1 {r k g : Nat} {o : GObj} : DX [(r, k, o, g)] := ⟨by simp, trivial⟩
theorem stX_nil {S : St} : stX S [] = S := rfl
/-- Cell by cell no less is known. -/
def VWC (a b : AV) : Prop := a.cells.length = b.cells.length ∧ ∀ j (h1 : j < a.cells.length) (h2 : j < b.cells.length), VW a.cells[j] b.cells[j]
theorem VWC.refl (a : AV) : VWC a a := ⟨rfl, fun _ _ _ => VW.refl _⟩
theorem VWL.vwc {a b : AV} (h : VWL a.cells b.cells) : VWC a b := ⟨h.len.symm, fun j h1 h2 => h.at j h1 h2⟩
def OW : GObj → GObj → Prop
  | .arr kk es, .arr kk' es' => kk' = kk ∧ es'.length = es.length ∧ ∀ i (h1 : i < es.length) (h2 : i < es'.length), VWC es[i] es'[i]
  | _, _ => False
theorem Rel.ow {G : Ghost} {S : St} {w : World} (h : Rel G S w) {r k g : Nat} {o o' : GObj} (hS : S r k = some (o, g)) (ho : OW o o') : Rel G (S.set r k o' g) w := by
  obtain ⟨L, hL, hobj, hown⟩ := h.obj _ _ _ _ hS
  have hobj' : ObjAt G w L o' := by
    cases o with
    | mp => exact ho.elim
    | arr kk es =>
    cases o' with
    | mp => exact ho.elim
    | arr kk' es' =>
    obtain ⟨rfl, hl, hv⟩ := ho
    obtain ⟨h1, h2, h3, h3', h4, h5⟩ := hobj
    refine ⟨h1, h2, by omega, h3', fun i hi => ?_, fun hc => ?_⟩
    · rw [← (hv i (by omega) hi).1]; exact h4 i (by omega)
    · obtain ⟨row, a1, a2, a3⟩ := h5 hc
      refine ⟨row, a1, a2, fun i hi j hj => ?_⟩
      have hvi := hv i (by omega) hi
      obtain ⟨z, z1, z2⟩ := a3 i (by omega) j (by rw [hvi.1]; exact hj)
      exact ⟨z, z1, hvi.2 j _ hj G _ z2⟩
  refine ⟨h.below, h.imm, fun r' k' o2 g2 e => ?_, ?_, ?_, h.fing⟩
  · simp only [St.set] at e
    split at e
    · rename_i hc; obtain ⟨rfl, rfl⟩ := hc; cases e; exact ⟨L, hL, hobj', hown⟩
    · exact h.obj _ _ _ _ e
  · intro r1 k1 o1 g1 r2 k2 o2 g2 L1 L2 e1 e2 l1 l2 c1 c2 hne
    simp only [St.set] at e1 e2
    have fix : ∀ {r' k' o' g'}, (if r' = r ∧ k' = k then some (o', g) else S r' k') = some (o', g') → True := fun _ => trivial
    split at e1
    · rename_i hc1
      obtain ⟨rfl, rfl⟩ := hc1
      cases e1
      split at e2
      · rename_i hc2; exact absurd ⟨hc2.1.symm, hc2.2.symm⟩ hne
      · exact h.inj _ _ _ _ _ _ _ _ _ _ hS e2 l1 l2 c1 c2 hne
    · split at e2
      · rename_i hc2
        obtain ⟨rfl, rfl⟩ := hc2
        cases e2
        exact h.inj _ _ _ _ _ _ _ _ _ _ e1 hS l1 l2 c1 c2 hne
      · exact h.inj _ _ _ _ _ _ _ _ _ _ e1 e2 l1 l2 c1 c2 hne
  · obtain ⟨N, hN⟩ := h.fin
    refine ⟨N, fun r' hr k' => ?_⟩
    simp only [St.set]
    split
    · rename_i hc; obtain ⟨rfl, rfl⟩ := hc; rw [hN _ hr] at hS; cases hS
    · exact hN r' hr k'
/-- The contents of an object are seen otherwise. -/
theorem EWk.ow {t : Env} {S0 : St} {rg k g : Nat} {L : Objs} {o o' : GObj} (hS : lkp L k = some (o, g)) (ho : OW o o') : EWk t (stL S0 rg L) t (stL S0 rg ((k, o', g) :: L)) := fun n G a w hr ht =>
  ⟨G, Ghost.le.refl G, by rw [← stL_set]; exact hr.ow (by rw [stL_at]; exact hS) ho, ht⟩
theorem OW.one {kk : Nat} {a b : AV} (h : VWC a b) : OW (.arr kk [a]) (.arr kk [b]) := ⟨rfl, rfl, fun i h1 h2 => by
  have : i = 0 := by simpa using h1
  subst this
  exact h⟩

theorem o_alloc {d kk : Nat} {z : AV} (hz : zav P T = z) (hok : tyok P T = true) (hk : z.cells.length = kk) (h : ∀ g, K (.ptr rg d g 0 0) (stL S0 rg ((d, .arr kk [z], g) :: L))) : vo P rg (some d) (.alloc T) t (stL S0 rg L) K := by
  rw [vo_alloc]
  refine ⟨hok, fun g => ?_⟩
  rw [hz, hk, Option.getD_some, stL_set]
  exact h g
theorem o_box {d kk : Nat} (hx : ev t x = v) (hs : v.solid = true) (hk : v.cells.length = kk) (h0 : 0 < kk) (h : ∀ g, K (.ptr rg d g 0 0) (stL S0 rg ((d, .arr kk [v], g) :: L))) : vo P rg (some d) (.box T x) t (stL S0 rg L) K := by
  rw [vo_box, hx]
  refine ⟨⟨hs, by omega⟩, fun g => ?_⟩
  rw [hk, Option.getD_some, stL_set]
  exact h g
theorem o_storeB {d : Option Nat} {r k kk g off sz' : Nat} {u w : AV} {S' : St} (hS : S r k = some (.arr kk [u], g)) (hs : sz P T = sz') (h0 : 0 < sz') (ha : ev t a = .ptr r k g 0 off) (hx : ev t x = w) (hl : Nat.beq w.cells.length sz' = true) (hc : (Nat.ble (off + sz') kk && allOne w.cells) = true)
    (hv : stv u off w = v) (hset : S.set r k (.arr kk [v]) g = S') (h : K .junk S') : vo P rg d (.store T a x) t S K := by
  rw [vo_store, ha, hx, vStore]
  simp only [hS]
  simp only [Bool.and_eq_true, Nat.ble_eq] at hc
  have hl' := Nat.eq_of_beq_eq_true hl
  refine ⟨⟨trivial, by simp, by omega, by omega, by omega, hc.2⟩, ?_⟩
  have : ([u].set 0 (stv ([u].getD 0 .junk) off w)) = [v] := by simp [← hv]
  rw [this, hset]
  exact h
theorem stv_all {u w : AV} {kk : Nat} (hu : u.cells.length = kk) (hw : w.cells.length = kk) (hagg : ∃ l, w = .agg l) : stv u 0 w = w := by
  obtain ⟨l, rfl⟩ := hagg
  cases u with
  | agg m => simp [stv, AV.cells] at *; omega
  | _ => rfl
theorem o_storeR {d : Option Nat} {α : Type} {enc : α → AV} {l : List α} {x' : α} {r k kk g : Nat} {S' : St} (hS : S r k = some (.arr kk (l.map enc), g)) (hs : sz P T = kk) (h0 : 0 < kk) (hk : ∀ z, (enc z).cells.length = kk) (ha : ev t a = .ptr r k g m.toNat 0) (hx : ev t x = enc x') (hi : m.toNat < l.length)
    (hc : allOne (enc x').cells = true) (hst : ∀ z, stv (enc z) 0 (enc x') = enc x') (hset : S.set r k (.arr kk ((set' l m x').map enc)) g = S') (h : K .junk S') : vo P rg d (.store T a x) t S K := by
  rw [vo_store, ha, hx, vStore]
  simp only [hS]
  refine ⟨⟨trivial, by simpa using hi, by omega, by rw [hk, hs], by omega, hc⟩, ?_⟩
  have e : (l.map enc).getD m.toNat .junk = enc (l[m.toNat]'hi) := by
    rw [List.getD_eq_getElem?_getD]; simp [hi]
  rw [e, hst]
  have : (l.map enc).set m.toNat (enc x') = (set' l m x').map enc := by simp [set', List.map_set]
  rw [this, hset]
  exact h
theorem o_storeR1 {d : Option Nat} {α : Type} {enc : α → AV} {l : List α} {x' : α} {r k kk g : Nat} {S' : St} (hS : S r k = some (.arr kk (l.map enc), g)) (hs : sz P T = kk) (h0 : 0 < kk) (hk : ∀ z, (enc z).cells.length = kk) (ha : ev t a = .ptr r k g m.toNat 0) (hx : ev t x = enc x') (hi : m.toNat < l.length)
    (hc : allOne (enc x').cells = true) (hst : isAggZ (enc x') = false) (hset : S.set r k (.arr kk ((set' l m x').map enc)) g = S') (h : K .junk S') (hz : ∀ z, isAggZ (enc z) = false := by intro _; rfl) : vo P rg d (.store T a x) t S K :=
  o_storeR hS hs h0 hk ha hx hi hc (fun z => by
    have := hz z
    generalize enc z = u at this
    cases u <;> first | rfl | cases this) hset h
theorem o_storeRA {d : Option Nat} {α : Type} {enc : α → AV} {l : List α} {x' : α} {r k kk g : Nat} {S' : St} (hS : S r k = some (.arr kk (l.map enc), g)) (hs : sz P T = kk) (h0 : 0 < kk) (hk : ∀ z, (enc z).cells.length = kk) (ha : ev t a = .ptr r k g m.toNat 0) (hx : ev t x = enc x') (hi : m.toNat < l.length)
    (hc : allOne (enc x').cells = true) (hst : isAggZ (enc x') = true) (hset : S.set r k (.arr kk ((set' l m x').map enc)) g = S') (h : K .junk S') : vo P rg d (.store T a x) t S K :=
  o_storeR hS hs h0 hk ha hx hi hc (fun z => stv_all (hk z) (hk x') (by
    generalize enc x' = u at hst
    cases u <;> first | exact ⟨_, rfl⟩ | cases hst)) hset h
theorem o_makeZ {d kk : Nat} {z : AV} {b : Nat} {l c : Operand} {n m : Int} (hT : td P T = .slice e) (hb : bts P e = b) (hok : tyok P e = true) (hz : zav P e = z) (hk : z.cells.length = kk) (hl : ev t l = .int .i64 n) (hc : ev t c = .int .i64 m)
    (hbd : mkOk b n m) (h : ∀ g, K (.sl kk rg d g 0 n.toNat) (stL S0 rg ((d, .arr kk (rep' n z), g) :: L))) : vo P rg (some d) (.makeSlice T l c) t (stL S0 rg L) K := by
  rw [vo_make, hl, hc, vMake, hT]
  refine ⟨⟨hbd.1, hbd.2.1, by rw [hb]; exact hbd.2.2.1, hbd.2.2.2⟩, hok, fun g => ?_⟩
  have := h g
  rw [hz, hk, Option.getD_some, stL_set]
  simpa [rep'] using this
theorem o_make {d kk : Nat} {α : Type} {enc : α → AV} {z' : α} {b : Nat} {l c : Operand} {n m : Int} (hT : td P T = .slice e) (hb : bts P e = b) (hok : tyok P e = true) (hz : zav P e = enc z') (hk : (enc z').cells.length = kk) (hl : ev t l = .int .i64 n) (hc : ev t c = .int .i64 m)
    (hbd : mkOk b n m) (h : ∀ g, K (.sl kk rg d g 0 n.toNat) (stL S0 rg ((d, .arr kk ((rep' n z').map enc), g) :: L))) : vo P rg (some d) (.makeSlice T l c) t (stL S0 rg L) K :=
  o_makeZ hT hb hok hz hk hl hc hbd (fun g => by
    have := h g
    have e2 : (rep' n z').map enc = rep' n (enc z') := by simp [rep']
    rw [e2] at this
    exact this)
theorem OW.rep {α : Type} {enc : α → AV} {kk : Nat} {n : Int} {z : AV} {z' : α} (h : VWC z (enc z')) : OW (.arr kk (rep' n z)) (.arr kk ((rep' n z').map enc)) := ⟨rfl, by simp [rep'], fun i h1 h2 => by
  simp only [rep', List.getElem_replicate, List.getElem_map]
  exact h⟩
theorem o_bslice {d kk : Nat} {z : AV} {len : Nat} {parts : List (Nat × Operand)} {es : List AV} (hT : td P T = .slice e) (hok : tyok P e = true) (hz : zav P e = z) (hes : parts.map (fun p => ev t p.2) = es) (hk : z.cells.length = kk) (hix : parts.map (·.1) = List.range len) (hlen : es.length = len)
    (hsm : Nat.ble (len * kk) 16777216 = true) (hc : (es.all fun x => x.solid && Nat.beq x.cells.length kk) = true) (hl' : len = len) (h : ∀ g, K (.sl kk rg d g 0 len) (stL S0 rg ((d, .arr kk es, g) :: L))) : vo P rg (some d) (.buildSlice T len parts.toArray) t (stL S0 rg L) K := by
  rw [vo_buildSlice, vBuildSlice, hT]
  refine ⟨⟨by rw [hix]; simp, by rw [hes]; exact hlen, hok, by rw [hz, hk]; exact Nat.le_of_ble_eq_true hsm, ?_⟩, fun g => ?_⟩
  · rw [hes, hz, hk]
    rw [List.all_eq_true] at hc ⊢
    intro x hx
    have := hc x hx
    simpa using this
  · rw [hes, hz, hk, Option.getD_some, stL_set]
    exact h g
theorem len_enc {α : Type} {enc : α → AV} {l : List α} : ((l.map enc).length : Int) = (l.length : Int) := by simp
theorem o_sliceL {d : Option Nat} {α : Type} {enc : α → AV} {z : List α} {kk : Nat} {lo hi : Option Operand} {l h : Int} (hT : td P T = .slice e) (hs : sz P e = kk) (h0 : 0 < kk) (hk : ∀ z, (enc z).cells.length = kk) (hx : ev t x = eL enc z)
    (hlo : bnd (lo.map (ev t)) 0 = some l) (hhi : bnd (hi.map (ev t)) z.length = some h) (hb : 0 ≤ l ∧ l ≤ h ∧ h ≤ z.length) (hK : K (eL enc (sub' z l h)) S) : vo P rg d (.slice T x lo hi none) t S K := by
  rw [vo_slice, hx]
  show vSlice P T (eL enc z) _ _ none _
  have hhi' : bnd (hi.map (ev t)) (z.map enc).length = some h := by rw [List.length_map]; exact hhi
  unfold vSlice
  rw [hT]
  simp only [hlo, hhi']
  refine ⟨⟨hb.1, hb.2.1, by simpa using hb.2.2⟩, ⟨by omega, ?_⟩, ?_⟩
  · rw [List.all_eq_true]
    intro u hu
    obtain ⟨w, _, rfl⟩ := List.mem_map.1 hu
    simp [hk, hs]
  · rw [← List.map_drop, ← List.map_take]
    exact hK
theorem o_sliceR {d : Option Nat} {kk r k' g off n : Nat} {lo hi : Option Operand} {l h : Int} (hT : td P T = .slice e) (hs : sz P e = kk) (h0 : 0 < kk) (hx : ev t x = .sl kk r k' g off n)
    (hlo : bnd (lo.map (ev t)) 0 = some l) (hhi : bnd (hi.map (ev t)) n = some h) (hb : 0 ≤ l ∧ l ≤ h ∧ h ≤ n) (hK : K (.sl kk r k' g (off + l.toNat) (h.toNat - l.toNat)) S) : vo P rg d (.slice T x lo hi none) t S K := by
  rw [vo_slice, hx]
  show vSlice P T (.sl kk r k' g off n) _ _ none _
  unfold vSlice
  rw [hT]
  simp only [hlo, hhi]
  exact ⟨hb, ⟨h0, hs.symm⟩, hK⟩
theorem view_row {r k kk g : Nat} {es : List AV} {n : Nat} (hS : S r k = some (.arr kk es, g)) (hn : n = es.length) : view S (.sl kk r k g 0 n) = some es := by
  simp only [view, hS]
  subst hn
  simp
theorem all_cells {α : Type} {enc : α → AV} {kk : Nat} {l : List α} (hk : ∀ z, (enc z).cells.length = kk) (hone : ∀ z, allOne (enc z).cells = true) : ((l.map enc).all fun x => allOne x.cells && (x.cells.length == kk)) = true := by
  rw [List.all_eq_true]
  intro u hu
  obtain ⟨w, _, rfl⟩ := List.mem_map.1 hu
  simp [hk, hone]
theorem o_appN {d kk b : Nat} {α : Type} {enc : α → AV} {xs : List α} {z : AV} (hT : td P T = .slice e) (hb : bts P e = b) (hok : tyok P e = true) (hz : zav P e = z) (hx : view (stL S0 rg L) (ev t y) = some (xs.map enc)) (hk : z.cells.length = kk) (hx0 : ev t x = .nil)
    (hone : ∀ z, allOne (enc z).cells = true) (hkk : ∀ z, (enc z).cells.length = kk) (hbd : xs.length * b ≤ 140737488355328) (hb0 : Nat.ble 1 b = true) (h : ∀ g, K (.sl kk rg d g 0 xs.length) (stL S0 rg ((d, .arr kk (xs.map enc), g) :: L))) :
    vo P rg (some d) (.call { callee := .builtin .append, args := #[x, y], argTypes := #[T, T] }) t (stL S0 rg L) K := by
  rw [vo_append, hx0, vAppend, hT]
  simp only [hx]
  have h1 := Nat.le_of_ble_eq_true hb0
  have h2 : xs.length * 1 ≤ xs.length * b := Nat.mul_le_mul_left _ h1
  refine ⟨⟨hok, ?_⟩, by rw [hb]; simpa using hbd, by simp; omega, fun g => ?_⟩
  · rw [hz, hk]; exact all_cells hkk hone
  · rw [hz, hk, Option.getD_some, stL_set]
    have := h g
    simpa using this
theorem o_appR {d : Option Nat} {r k kk b n g : Nat} {S' : Nat → St} {α : Type} {enc : α → AV} {es xs : List α} {z : AV} (hT : td P T = .slice e) (hb : bts P e = b) (hok : tyok P e = true) (hz : zav P e = z) (hS : S r k = some (.arr kk (es.map enc), g)) (hn : n = es.length) (hx : view S (ev t y) = some (xs.map enc)) (hk : z.cells.length = kk) (hx0 : ev t x = .sl kk r k g 0 n)
    (hone : ∀ z, allOne (enc z).cells = true) (hkk : ∀ z, (enc z).cells.length = kk) (hbd : (es ++ xs).length * b ≤ 140737488355328) (hb0 : Nat.ble 1 b = true) (hset : ∀ g, S.set r k (.arr kk ((es ++ xs).map enc)) g = S' g) (h : ∀ g, K (.sl kk r k g 0 (es ++ xs).length) (S' g)) :
    vo P rg d (.call { callee := .builtin .append, args := #[x, y], argTypes := #[T, T] }) t S K := by
  rw [vo_append, hx0, vAppend, hT]
  simp only [hx, hS]
  have h1 := Nat.le_of_ble_eq_true hb0
  have h2 : (es ++ xs).length * 1 ≤ (es ++ xs).length * b := Nat.mul_le_mul_left _ h1
  have hlen : (es ++ xs).length = es.length + xs.length := List.length_append
  refine ⟨⟨hok, ?_⟩, ⟨trivial, trivial, trivial, by rw [hz, hk], by simpa using hn⟩, ⟨?_, ?_⟩, fun g => ?_⟩
  · rw [hz, hk]; exact all_cells hkk hone
  · rw [hb, List.length_map, List.length_map, ← hlen]; exact hbd
  · rw [List.length_map, List.length_map, ← hlen]; omega
  · have := h g
    rw [← hset, List.map_append, hlen] at this
    simpa using this
theorem o_pickT {d : Option Nat} {c : Operand} {b : Bool} (hc : ev t c = .bool b) (hb : b = true) (hv : ev t x = v) (h : K v S) : vo P rg d (.pick c x y) t S K := o_pick hc (by rw [hb]; exact hv) h
theorem o_pickF {d : Option Nat} {c : Operand} {b : Bool} (hc : ev t c = .bool b) (hb : b = false) (hv : ev t y = v) (h : K v S) : vo P rg d (.pick c x y) t S K := o_pick hc (by rw [hb]; exact hv) h
theorem res_tmp {rs : List ResultVar} {k : Nat} {KL : List AV → Prop} (hv : t k = v) (h : vres P rs t S (fun vs => KL (v :: vs))) : vres P (.tmp k :: rs) t S KL := by
  show vres P rs t S (fun vs => KL (t k :: vs))
  rw [hv]; exact h
theorem res_nil {KL : List AV → Prop} (h : KL []) : vres P [] t S KL := h
theorem res_cellA {rs : List ResultVar} {r a k kk g sz' : Nat} {u : AV} {KL : List AV → Prop} (hS : S r k = some (.arr kk [u], g)) (hs : sz P T = sz') (h0 : 0 < sz') (ha : isAggT P T = true) (hx : t a = .ptr r k g 0 0) (hl : Nat.ble sz' kk = true)
    (hv : AV.agg ((u.cells.drop 0).take sz') = v) (h : vres P rs t S (fun vs => KL (v :: vs))) : vres P (.cell a T :: rs) t S KL := by
  have := o_loadBA (P := P) (rg := 0) (d := none) (t := t) (x := .tmp a) (K := fun v S => vres P rs t S (fun vs => KL (v :: vs))) hS hs h0 ha (off := 0) hx (by rw [Nat.zero_add]; exact hl) hv h
  rw [vo_load] at this
  have e : ev t (.tmp a) = t a := rfl
  rw [e] at this
  show vLoad P T (t a) S (fun v => vres P rs t S (fun vs => KL (v :: vs)))
  exact this
theorem res_cell1 {rs : List ResultVar} {r a k kk g : Nat} {u : AV} {KL : List AV → Prop} (hS : S r k = some (.arr kk [u], g)) (hs : sz P T = 1) (ha : isAggT P T = false) (hx : t a = .ptr r k g 0 0) (hl : Nat.ble 1 kk = true)
    (hv : u.cells.getD 0 .junk = v) (h : vres P rs t S (fun vs => KL (v :: vs))) : vres P (.cell a T :: rs) t S KL := by
  have := o_loadB1 (P := P) (rg := 0) (d := none) (t := t) (x := .tmp a) (K := fun v S => vres P rs t S (fun vs => KL (v :: vs))) hS hs ha (off := 0) hx (by rw [Nat.zero_add]; exact hl) hv h
  rw [vo_load] at this
  show vLoad P T (t a) S (fun v => vres P rs t S (fun vs => KL (v :: vs)))
  exact this
end

/-! ### Regions that draw their order -/
section
variable {P : Program} {n rg : Nat} {us : Nat → CR} {ops rest : List Oper} {op : Op} {d : Option Nat} {ty : TypeId} {pos : String} {after : Array Edge} {j : Nat} {log : Log} {t : Env} {S : St} {K : Env → St → Prop} {nrm ret : Env → St → Prop} {ex : Nat → Env → St → Prop}
theorem Vc.drawn' (hm : P.follows .mixedOrders = true) (rg : Nat) {id : Nat} {l : List Oper} (us : Nat → CR) (hok : drawOk n l = true) (h : vdT P rg us l l 0 [] t S nrm) : Vc P n (.region id l.toArray true) ⟨nrm, ex, ret⟩ t S := Vc.drawn hm rg us hok h
theorem dP (hvc : isVC op = false) (hE : fpo rg (d.getD 0) (us j) op (ev t) = ([], none)) (h : vo P rg d op t S (fun v S' => vdT P rg us ops rest (j + 1) log (updo t d v) S' K)) : vdT P rg us ops (⟨d, op, ty, pos, after, none⟩ :: rest) j log t S K := by
  rw [vdT_pure hE hvc]; exact h
theorem dL {E : Eff} (hvc : isVC op = false) (hE : fpo rg (d.getD 0) (us j) op (ev t) = E) (hne : E ≠ ([], none)) (hcf : cf ops log j E) (h : vo P rg d op t S (fun v S' => vdT P rg us ops rest (j + 1) ((j, E) :: log) (updo t d v) S' K)) : vdT P rg us ops (⟨d, op, ty, pos, after, none⟩ :: rest) j log t S K := by
  rw [vdT_loud hE hvc hne]; exact ⟨hcf, h⟩
theorem cfn {E : Eff} : cf ops [] j E := fun p hp => by simp at hp
theorem cfo {i : Nat} {E E' : Eff} (h : ordB ops i j = true) (h' : cf ops log j E) : cf ops ((i, E') :: log) j E := fun p hp => by
  rcases List.mem_cons.1 hp with e | e
  · subst e; exact .inl h
  · exact h' p e
theorem cfa {i : Nat} {E E' : Eff} (h : apartE E' E) (h' : cf ops log j E) : cf ops ((i, E') :: log) j E := fun p hp => by
  rcases List.mem_cons.1 hp with e | e
  · subst e; exact .inr h
  · exact h' p e
theorem dGT {g : Nat} {gj : Nat} {want b : Bool} (hd : (ops[gj]?).bind (·.dst) = some g) (hb : t g = .bool b) (hv : b = want) (h : vdT P rg us ops (⟨d, op, ty, pos, after, none⟩ :: rest) j log (upd t g (.bool want)) S K) : vdT P rg us ops (⟨d, op, ty, pos, after, some (gj, want)⟩ :: rest) j log t S K := by
  rw [vdT_some, hd]
  show (match t g with | .bool b => _ | _ => False)
  rw [hb]
  exact ⟨fun _ => h, fun h' => by subst hv; cases b <;> cases h'⟩
theorem dGF {g : Nat} {gj : Nat} {want b b' : Bool} (hd : (ops[gj]?).bind (·.dst) = some g) (hb : t g = .bool b) (hv : b = b') (hn : b' = !want) (h : vdT P rg us ops rest (j + 1) log (updo (upd t g (.bool !want)) d .junk) S K) : vdT P rg us ops (⟨d, op, ty, pos, after, some (gj, want)⟩ :: rest) j log t S K := by
  rw [vdT_some, hd]
  show (match t g with | .bool b => _ | _ => False)
  rw [hb]
  exact ⟨fun h' => (by subst hv hn; cases want <;> cases h'), fun _ => h⟩
theorem dC {f : Operand} {xs : List Operand} {ts : Array TypeId} {g : FuncId} {caps vs : List AV} {V : AV} (hf : ev t f = .fn (.func g) [] caps) (ha : VWL (xs.map (ev t) ++ caps) vs) (hc : ∀ S', Ctr P g vs S' (fun v S'' => v = V ∧ S'' = S')) (hu : us j = pc V)
    (h : vdT P rg us ops rest (j + 1) log (updo t d V) S K) : vdT P rg us ops (⟨d, .call { callee := .value f, args := xs.toArray, argTypes := ts }, ty, pos, after, none⟩ :: rest) j log t S K := by
  rw [vdT_call, hu]
  refine ⟨cf_empty, ?_⟩
  rw [hf]
  exact ⟨fun S' _ => Ctr.arg ha.len (fun i h1 h2 => ha.at i h1 h2) (hc S'), h⟩
theorem dN (h : K t S) : vdT P rg us ops [] j log t S K := h
end
/-- What is stored is remapped. -/
theorem Rel.remap {G : Ghost} {S S' : St} {w : World} (h : Rel G S w) (hs : ∀ r k o' g, S' r k = some (o', g) → ∃ o, S r k = some (o, g) ∧ ∀ L, G.loc r k g = some L → ObjAt G w L o') : Rel G S' w := by
  refine ⟨h.below, h.imm, fun r k o' g e => ?_, ?_, ?_, h.fing⟩
  · obtain ⟨o, e0, hob⟩ := hs _ _ _ _ e
    obtain ⟨L, hL, _, hown⟩ := h.obj _ _ _ _ e0
    exact ⟨L, hL, hob L hL, hown⟩
  · intro r1 k1 o1 g1 r2 k2 o2 g2 L1 L2 e1 e2 l1 l2 c1 c2 hne
    obtain ⟨_, f1, _⟩ := hs _ _ _ _ e1
    obtain ⟨_, f2, _⟩ := hs _ _ _ _ e2
    exact h.inj _ _ _ _ _ _ _ _ _ _ f1 f2 l1 l2 c1 c2 hne
  · obtain ⟨N, hN⟩ := h.fin
    refine ⟨N, fun r hr k => ?_⟩
    cases e : S' r k with
    | none => rfl
    | some x =>
      obtain ⟨o, e0, _⟩ := hs _ _ _ _ e
      rw [hN r hr k] at e0
      cases e0
/-- A cell in which a frozen row is seen. -/
def VWZ (r k g kk : Nat) (xs : List AV) (a b : AV) : Prop := a.cells.length = b.cells.length ∧ ∀ j (h1 : j < a.cells.length) (h2 : j < b.cells.length), VW (frz1 r k g kk xs a.cells[j]) b.cells[j]
def OZ (r k g kk : Nat) (xs : List AV) : GObj → GObj → Prop
  | .arr k1 [a], .arr k2 [b] => k2 = k1 ∧ VWZ r k g kk xs a b
  | _, _ => False
/-- The objects of m are those of l; what a box holds may be seen otherwise. -/
def SubZ (r k g kk : Nat) (xs : List AV) (l : Objs) : Objs → Prop
  | [] => True
  | (j, (o, g')) :: m => (lkp l j = some (o, g') ∨ ∃ o0, lkp l j = some (o0, g') ∧ OZ r k g kk xs o0 o) ∧ SubZ r k g kk xs l m
theorem SubZ.at {r k g kk : Nat} {xs : List AV} {l : Objs} : ∀ {m : Objs}, SubZ r k g kk xs l m → ∀ j o' g', lkp m j = some (o', g') → lkp l j = some (o', g') ∨ ∃ o0, lkp l j = some (o0, g') ∧ OZ r k g kk xs o0 o'
  | [], _, j, o', g', e => by simp [lkp] at e
  | (j0, (o, g0)) :: m, h, j, o', g', e => by
    simp only [lkp] at e
    by_cases hk : j = j0
    · subst hk
      have : Nat.beq j j = true := by simp
      rw [this, cond_true] at e
      cases e
      exact h.1
    · rw [nbeq_ne hk, cond_false] at e
      exact h.2.at j o' g' e
theorem canon_freezeB {t : Env} {S0 : St} {rg k g kk : Nat} {xs : List AV} {l m : Objs} {es : List (Nat × AV)} (hS : lkp l k = some (.arr kk xs, g)) (hf : Fit (fun i => frz rg k g kk xs (t i)) es) (hs : SubZ rg k g kk xs (dlt l k) m) :
    EWk t (stL S0 rg l) (envOf es) (stL S0 rg m) := fun n G a w hr ht => by
  obtain ⟨G', hle, hr', L, a1, a2, a3, a4, a5, u, a6, a7⟩ := hr.freeze (r := rg) (k := k) (by rw [stL_at]; exact hS)
  refine ⟨G', hle, ?_, ht.1, ht.2.1, fun i => hf.vw i G' _ (frz_sound hle a1 a2 a3 a4 a5 u a6 a7 (ht.2.2 i))⟩
  refine hr'.remap (fun r j o' g' e => ?_)
  by_cases hrg : r = rg
  · subst hrg
    rw [stL_at] at e
    rcases hs.at j o' g' e with h1 | ⟨o0, h1, h2⟩
    · refine ⟨o', by rw [stL_del, stL_at]; exact h1, fun L' hL' => ?_⟩
      obtain ⟨L2, q1, q2, _⟩ := hr'.obj r j o' g' (by rw [stL_del, stL_at]; exact h1)
      rw [hL'] at q1; cases q1; exact q2
    · refine ⟨o0, by rw [stL_del, stL_at]; exact h1, fun L' hL' => ?_⟩
      have h0 : lkp l j = some (o0, g') := by
        rw [lkp_dlt] at h1
        cases hb : Nat.beq j k <;> rw [hb] at h1
        · exact h1
        · cases h1
      obtain ⟨L2, q1, q2, _⟩ := hr.obj r j o0 g' (by rw [stL_at]; exact h0)
      have q1' := hle.loc _ _ _ _ q1
      rw [hL'] at q1'; cases q1'
      cases o0 with
      | mp => exact h2.elim
      | arr k1 e1 =>
      cases o' with
      | mp => simp [OZ] at h2
      | arr k2 e2 =>
      match e1, e2, h2 with
      | [x], [y], h2 =>
        obtain ⟨rfl, hz⟩ := h2
        obtain ⟨b1, b2, b3, b3', b4, b5⟩ := q2
        refine ⟨b1, b2, by simpa using b3, b3', fun i hi => ?_, fun hc => ?_⟩
        · have : i = 0 := by simpa using hi
          subst this
          show y.cells.length = _
          rw [← hz.1]; exact b4 0 (by simp)
        · obtain ⟨row, c1, c2, c3⟩ := b5 hc
          refine ⟨row, c1, c2, fun i hi q hq => ?_⟩
          have : i = 0 := by simpa using hi
          subst this
          have hq' : q < y.cells.length := hq
          obtain ⟨z, z1, z2⟩ := c3 0 (by simp) q (by show q < x.cells.length; rw [hz.1]; exact hq')
          refine ⟨z, z1, ?_⟩
          exact hz.2 q _ hq' G' _ (frz1_sound hle a1 a2 a3 a4 a5 u a6 a7 z2)
  · rw [stL_ne hrg] at e
    have e' : (stL S0 rg (dlt l k)) r j = some (o', g') := by rw [stL_ne hrg]; exact e
    refine ⟨o', by rw [stL_del]; exact e', fun L' hL' => ?_⟩
    obtain ⟨L2, q1, q2, _⟩ := hr'.obj r j o' g' (by rw [stL_del]; exact e')
    rw [hL'] at q1; cases q1; exact q2
theorem zn {r k g kk : Nat} {xs : List AV} {l : Objs} : SubZ r k g kk xs l [] := trivial
theorem zc {r k g kk : Nat} {xs : List AV} {l m : Objs} {j g' : Nat} {o : GObj} (h : lkp l j = some (o, g')) (h' : SubZ r k g kk xs l m) : SubZ r k g kk xs l ((j, (o, g')) :: m) := ⟨.inl h, h'⟩
def FZL (r k g kk : Nat) (xs : List AV) : List AV → List AV → Prop
  | [], [] => True
  | a :: l, b :: m => VW (frz1 r k g kk xs a) b ∧ FZL r k g kk xs l m
  | _, _ => False
theorem FZL.len {r k g kk : Nat} {xs : List AV} : ∀ {l m : List AV}, FZL r k g kk xs l m → l.length = m.length
  | [], [], _ => rfl
  | _ :: _, _ :: _, h => by simp [h.2.len]
theorem FZL.at {r k g kk : Nat} {xs : List AV} : ∀ {l m : List AV}, FZL r k g kk xs l m → ∀ i (h1 : i < l.length) (h2 : i < m.length), VW (frz1 r k g kk xs l[i]) m[i]
  | a :: l, b :: m, h, 0, _, _ => h.1
  | a :: l, b :: m, h, i + 1, h1, h2 => h.2.at i (by simpa using h1) (by simpa using h2)
theorem zb {r k g kk : Nat} {xs : List AV} {l m : Objs} {j g' k1 : Nat} {a b : AV} (h : lkp l j = some (.arr k1 [a], g')) (hz : FZL r k g kk xs a.cells b.cells) (h' : SubZ r k g kk xs l m) : SubZ r k g kk xs l ((j, (.arr k1 [b], g')) :: m) :=
  ⟨.inr ⟨_, h, rfl, hz.len, fun i h1 h2 => hz.at i h1 h2⟩, h'⟩
theorem zl {r k g kk : Nat} {xs : List AV} {a b : AV} {l m : List AV} (h : VW (frz1 r k g kk xs a) b) (h' : FZL r k g kk xs l m) : FZL r k g kk xs (a :: l) (b :: m) := ⟨h, h'⟩
theorem zln {r k g kk : Nat} {xs : List AV} : FZL r k g kk xs [] [] := trivial
def detW2 {α β : Type} (f : (α → β → Prop) → Prop) (k : α → β → Prop) : Prop := ∃ r s, f (fun x y => x = r ∧ y = s) ∧ k r s
def detW3 {α β γ : Type} (f : (α → β → γ → Prop) → Prop) (k : α → β → γ → Prop) : Prop := ∃ r s u, f (fun x y z => x = r ∧ y = s ∧ z = u) ∧ k r s u
theorem fzE1 {r k g kk : Nat} {xs : List AV} {E : TypeId} {o : Option Int} : VW (frz1 r k g kk xs (eErr E o)) (eErr E o) := by cases o <;> exact VW.refl _
theorem fzE2 {r k g kk : Nat} {xs : List AV} {E : TypeId} {o : Option Int} : VW (frz2 r k g kk xs (eErr E o)) (eErr E o) := by cases o <;> exact VW.refl _
theorem fzE0 {r k g kk : Nat} {xs : List AV} {E : TypeId} {o : Option Int} : VW (frz r k g kk xs (eErr E o)) (eErr E o) := by cases o <;> exact VW.refl _
end Go.Gg
