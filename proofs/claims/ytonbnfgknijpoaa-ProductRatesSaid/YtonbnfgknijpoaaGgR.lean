/- An own logic over the kit's weakest preconditions, part R: rules for single operations on typed values. Conditions: none. -/
import Derived.Test.YtonbnfgknijpoaaGgQ
namespace Go.Gg
open Go.RowKit (Below)

/-! ### The formulas of plain programs -/
def loopW {σ : Type} (x : σ) (body : σ → (σ → Prop) → Prop) : Prop := ∃ (I : σ → Prop) (μ : σ → Nat), I x ∧ ∀ y, I y → body y (fun z => I z ∧ μ z < μ y)
def joinW {α : Type} (f : (α → Prop) → Prop) (k : α → Prop) : Prop := ∃ J : α → Prop, f J ∧ ∀ x, J x → k x
def condW (c : Bool) (a b : Prop) : Prop := (c = true → a) ∧ (c = false → b)
/-- A call whose result is told ahead. -/
def detW {α : Type} (f : (α → Prop) → Prop) (k : α → Prop) : Prop := ∃ r, f (fun x => x = r) ∧ k r
/-- A value under a name. -/
def setW {α : Type} (e : α) (k : α → Prop) : Prop := ∀ v, v = e → k v
/-- make can be carried out. -/
def mkOk (b : Nat) (n m : Int) : Prop := 0 ≤ n ∧ n ≤ m ∧ (b : Int) * m ≤ 281474976710656 ∧ m ≤ 9223372036854775807
def rng (n : Int) : Prop := -9223372036854775808 ≤ n ∧ n ≤ 9223372036854775807
/-- Element i, where it is there. -/
def at' {α : Type} [Inhabited α] (l : List α) (i : Int) : α := l.getD i.toNat default
def set' {α : Type} (l : List α) (i : Int) (x : α) : List α := l.set i.toNat x
def sub' {α : Type} (l : List α) (i j : Int) : List α := (l.drop i.toNat).take (j.toNat - i.toNat)
def rep' {α : Type} (n : Int) (x : α) : List α := List.replicate n.toNat x

/-- A slice of encoded elements. -/
abbrev eL {α : Type} (e : α → AV) (l : List α) : AV := .list (l.map e)
/-- An error that is nil or a number. -/
def eErr (T : TypeId) : Option Int → AV
  | none => .niface
  | some n => .iface T (.int .i64 n)

theorem nbeq_ne {a b : Nat} (h : a ≠ b) : Nat.beq a b = false := by
  cases e : Nat.beq a b with
  | false => rfl
  | true => exact absurd (Nat.eq_of_beq_eq_true e) h
theorem ne_nbeq {a b : Nat} (h : Nat.beq a b = false) : a ≠ b := by
  rintro rfl
  simp at h
/-! ### Stores of a call's own objects -/
abbrev Objs := List (Nat × GObj × Nat)
def lkp : Objs → Nat → Option (GObj × Nat)
  | [], _ => none
  | (k, x) :: l, j => bif Nat.beq j k then some x else lkp l j
def dlt : Objs → Nat → Objs
  | [], _ => []
  | (k, x) :: l, j => bif Nat.beq j k then dlt l j else (k, x) :: dlt l j
def stL (S0 : St) (rg : Nat) (l : Objs) : St := fun r k => if r = rg then lkp l k else S0 r k
theorem stL_at {S0 : St} {rg : Nat} {l : Objs} {k : Nat} : stL S0 rg l rg k = lkp l k := by simp [stL]
theorem stL_ne {S0 : St} {rg r : Nat} {l : Objs} {k : Nat} (h : r ≠ rg) : stL S0 rg l r k = S0 r k := by simp [stL, h]
theorem stL_set {S0 : St} {rg k g : Nat} {l : Objs} {o : GObj} : (stL S0 rg l).set rg k o g = stL S0 rg ((k, o, g) :: l) := by
  funext r k'
  simp only [St.set, stL, lkp]
  by_cases h : r = rg
  · subst h
    by_cases h' : k' = k
    · subst h'; simp
    · simp [h', nbeq_ne h']
  · simp [h]
theorem lkp_dlt {l : Objs} {k j : Nat} : lkp (dlt l k) j = bif Nat.beq j k then none else lkp l j := by
  induction l with
  | nil => cases Nat.beq j k <;> rfl
  | cons p l ih =>
    obtain ⟨a, x⟩ := p
    simp only [dlt, lkp]
    by_cases h : k = a
    · subst h
      have : Nat.beq k k = true := by simp
      rw [this, cond_true, ih]
      cases Nat.beq j k <;> rfl
    · have : Nat.beq k a = false := nbeq_ne h
      rw [this, cond_false, lkp, ih]
      by_cases h' : j = a
      · subst h'
        have : Nat.beq j k = false := nbeq_ne (Ne.symm h)
        simp [this]
      · have : Nat.beq j a = false := nbeq_ne h'
        rw [this, cond_false, cond_false]
theorem stL_del {S0 : St} {rg k : Nat} {l : Objs} : (stL S0 rg l).del rg k = stL S0 rg (dlt l k) := by
  funext r k'
  simp only [St.del, stL, lkp_dlt]
  by_cases h : r = rg
  · subst h
    by_cases h' : k' = k
    · subst h'; simp
    · simp [h', nbeq_ne h']
  · simp [h]
theorem stL_nil {S : St} {rg : Nat} (h : ∀ k, S rg k = none) : stL S rg [] = S := by
  funext r k
  simp only [stL, lkp]
  split
  · rename_i e; subst e; rw [h]
  · rfl
theorem stL_clear {S : St} {rg : Nat} {l : Objs} (h : ∀ k, S rg k = none) : (stL S rg l).clear rg = S := by
  funext r k
  simp only [stL, St.clear]
  split
  · rename_i e; subst e; rw [h]
  · rfl
def SubL (l : Objs) : Objs → Prop
  | [] => True
  | (k, x) :: m => lkp l k = some x ∧ SubL l m
theorem SubL.sub {S0 : St} {rg : Nat} {l m : Objs} (h : SubL l m) : (stL S0 rg m).sub (stL S0 rg l) := by
  intro r k x hx
  simp only [stL] at hx ⊢
  split
  · rename_i e
    rw [if_pos e] at hx
    induction m with
    | nil => simp [lkp] at hx
    | cons p m ih =>
      obtain ⟨j, y⟩ := p
      simp only [lkp] at hx
      by_cases hk : k = j
      · subst hk
        have : Nat.beq k k = true := by simp
        rw [this, cond_true] at hx
        rw [← hx]
        exact h.1
      · have : Nat.beq k j = false := nbeq_ne hk
        rw [this, cond_false] at hx
        exact ih h.2 hx
  · rename_i e; rw [if_neg e] at hx; exact hx

/-! ### Environments that are listed -/
def envOf : List (Nat × AV) → Env
  | [] => fun _ => .junk
  | (k, v) :: l => fun i => bif Nat.beq i k then v else envOf l i
def Fit (t : Env) : List (Nat × AV) → Prop
  | [] => True
  | (k, v) :: l => VW (t k) v ∧ Fit t l
theorem Fit.vw {t : Env} : ∀ {l : List (Nat × AV)}, Fit t l → ∀ i, VW (t i) (envOf l i)
  | [], _, i => VW.junk _
  | (k, v) :: l, h, i => by
    simp only [envOf]
    by_cases hi : i = k
    · subst hi
      have : Nat.beq i i = true := by simp
      rw [this]
      exact h.1
    · have : Nat.beq i k = false := nbeq_ne hi
      rw [this]
      exact h.2.vw i
theorem canon {t : Env} {S0 : St} {rg : Nat} {l m : Objs} {es : List (Nat × AV)} (hf : Fit t es) (hs : SubL l m) : EWk t (stL S0 rg l) (envOf es) (stL S0 rg m) := fun n G a w hr ht =>
  ⟨G, Ghost.le.refl G, hr.sub hs.sub, ht.1, ht.2.1, fun i => hf.vw i G _ (ht.2.2 i)⟩
/-- A row is written no more: it is a list from now on. -/
theorem canon_freeze {t : Env} {S0 : St} {rg k g kk : Nat} {xs : List AV} {l m : Objs} {es : List (Nat × AV)} (hS : lkp l k = some (.arr kk xs, g)) (hf : Fit (fun i => frz rg k g kk xs (t i)) es) (hs : SubL (dlt l k) m) :
    EWk t (stL S0 rg l) (envOf es) (stL S0 rg m) := by
  have h1 := EWk.freezeAll (t := t) (S := stL S0 rg l) (r := rg) (by rw [stL_at]; exact hS)
  rw [stL_del] at h1
  exact h1.trans (canon hf hs)
theorem frz_row {r k g kk off n : Nat} {xs : List AV} (h : off + n ≤ xs.length) : VW (frz r k g kk xs (.sl kk r k g off n)) (.list ((xs.drop off).take n)) := by
  have : frz r k g kk xs (.sl kk r k g off n) = .list ((xs.drop off).take n) := by simp [frz, frz2, frz1, h]
  rw [this]; exact VW.refl _
theorem frz_full {α : Type} {r k g kk n : Nat} {e : α → AV} {xs : List α} (h : n = xs.length) : VW (frz r k g kk (xs.map e) (.sl kk r k g 0 n)) (eL e xs) := by
  have : frz r k g kk (xs.map e) (.sl kk r k g 0 n) = eL e xs := by subst h; simp [frz, frz2, frz1, eL, List.take_of_length_le]
  rw [this]; exact VW.refl _
theorem frz_ne {r k g kk off n k' g' kk' : Nat} {xs : List AV} (h : Nat.beq k' k = false) : VW (frz r k g kk xs (.sl kk' r k' g' off n)) (.sl kk' r k' g' off n) := by
  have h' : k' ≠ k := ne_nbeq h
  have : frz r k g kk xs (.sl kk' r k' g' off n) = .sl kk' r k' g' off n := by simp [frz, frz2, frz1, h']
  rw [this]; exact VW.refl _
theorem Vc.mat {P : Program} {n : Nat} {c : Code} {Q : AK} {t : Env} {S0 : St} {rg : Nat} {l : Objs} (d k kk : Nat) (h0 : t d = .nil) (hk : 0 < kk) (h : ∀ g, Vc P n c Q (upd t d (.sl kk rg k g 0 0)) (stL S0 rg ((k, .arr kk [], g) :: l))) : Vc P n c Q t (stL S0 rg l) := by
  intro hok G a w hr ht
  obtain ⟨g, G', q1, q2, q3⟩ := hr.mat rg k kk hk
  rw [stL_set] at q2
  refine wp_mono (h g hok G' a w q2 ⟨ht.1, ht.2.1, fun i => ?_⟩) (fun _ _ _ he => AK.lift_mono q1 he)
  unfold upd
  split
  · rename_i e
    subst e
    have := ht.2.2 i
    rw [h0] at this
    generalize a.tmps.getD i undef = x at this ⊢
    cases this
    exact q3
  · exact (ht.2.2 i).mono q1

theorem enterT {P : Program} {f : FuncId} {fn : Func} {c : Code} {as : List AV} {S : St} {R : AV → St → Prop} {n : Nat} {rs : List ResultVar} (hf : P.funcs[f]? = some fn) (hb : fn.body = some c)
    (hn : fn.ntmps = n) (hrs : fn.results = rs.toArray) (hok : (callable P f && codeOk n c && decide (as.length ≤ n)) = true)
    (h : ∀ rg, (∀ k, S rg k = none) → Vc P n c ⟨retQ P rs R, fun _ _ _ => False, retQ P rs R⟩ (args as) (stL S rg [])) : Ctr P f as S R :=
  enterV hf hb hn hrs hok (fun rg hrg => by rw [← stL_nil hrg]; rw [stL_nil hrg]; have := h rg hrg; rw [stL_nil hrg] at this; exact this)

/-! ### Ends -/
theorem gives_out {R : AV → St → Prop} {v v' : AV} {S : St} {rg : Nat} {l : Objs} (hrg : ∀ k, S rg k = none) (hv : VW v v') (h : R v' S) : Gives R v (stL S rg l) := by
  refine Gives.drop rg ?_
  rw [stL_clear hrg]
  exact Gives.wk (Wk.of hv) (Gives.now h)
theorem gives_freeze {R : AV → St → Prop} {v v' : AV} {S : St} {rg k g kk : Nat} {xs : List AV} {l : Objs} (hS : lkp l k = some (.arr kk xs, g)) (hv : VW (frz rg k g kk xs v) v') (h : Gives R v' (stL S rg (dlt l k))) : Gives R v (stL S rg l) := by
  refine Gives.wk (Wk.freeze (by rw [stL_at]; exact hS)) ?_
  rw [stL_del]
  exact Gives.wk (Wk.of hv) h
def VWL : List AV → List AV → Prop
  | [], [] => True
  | a :: l, b :: m => VW a b ∧ VWL l m
  | _, _ => False
theorem VWL.len : ∀ {l m : List AV}, VWL l m → m.length = l.length
  | [], [], _ => rfl
  | _ :: _, _ :: _, h => by simp [h.2.len]
theorem VWL.at : ∀ {l m : List AV}, VWL l m → ∀ i (h1 : i < l.length) (h2 : i < m.length), VW l[i] m[i]
  | a :: l, b :: m, h, 0, _, _ => h.1
  | a :: l, b :: m, h, i + 1, h1, h2 => h.2.at i (by simpa using h1) (by simpa using h2)
theorem VW.aggL {l m : List AV} (h : VWL l m) : VW (.agg l) (.agg m) := VW.agg h.len (fun i a b => h.at i a b)
theorem VW.tupL {l m : List AV} (h : VWL l m) : VW (.tuple l) (.tuple m) := VW.tuple h.len (fun i a b => h.at i a b)
theorem VW.nilL {α : Type} {e : α → AV} : VW .nil (eL e []) := VW.nil

/-! ### Blocks -/
def exB (id : Nat) (nrm : Env → St → Prop) (ex : Nat → Env → St → Prop) : Nat → Env → St → Prop := fun i t S => if i = id then nrm t S else ex i t S
theorem exB_self {id : Nat} {nrm : Env → St → Prop} {ex : Nat → Env → St → Prop} {t : Env} {S : St} (h : nrm t S) : exB id nrm ex id t S := by unfold exB; rw [if_pos rfl]; exact h
theorem exB_ne {id i : Nat} {nrm : Env → St → Prop} {ex : Nat → Env → St → Prop} {t : Env} {S : St} (hi : Nat.beq i id = false) (h : ex i t S) : exB id nrm ex i t S := by unfold exB; rw [if_neg (ne_nbeq hi)]; exact h
theorem Vc.blk {P : Program} {n id : Nat} {c : Code} {nrm ret : Env → St → Prop} {ex : Nat → Env → St → Prop} {t : Env} {S : St} (h : Vc P n c ⟨nrm, exB id nrm ex, ret⟩ t S) : Vc P n (.block id c) ⟨nrm, ex, ret⟩ t S := Vc.block h

/-! ### Operations -/
section
variable {P : Program} {n rg : Nat} {d : Option Nat} {t : Env} {S S0 : St} {L : Objs} {K : AV → St → Prop} {ty : TypeId} {x y i : Operand} {v a : AV} {k : IntKind} {m q : Int} {T T' e : TypeId}

theorem o_move (hx : ev t x = v) (h : K v S) : vo P rg d (.move x) t S K := by rw [vo_move, hx]; exact h
theorem o_assign (hx : ev t x = v) (h : K v S) : vo P rg d (.assign x) t S K := by rw [vo_assign, hx]; exact h
theorem o_add (hx : ev t x = .int k m) (hy : ev t y = .int k q) (h : K (.int k (k.wrap (m + q))) S) : vo P rg d (.binOp .add T x y T') t S K := by rw [vo_bin, hx, hy]; exact ⟨rfl, h⟩
theorem o_sub (hx : ev t x = .int k m) (hy : ev t y = .int k q) (h : K (.int k (k.wrap (m - q))) S) : vo P rg d (.binOp .sub T x y T') t S K := by rw [vo_bin, hx, hy]; exact ⟨rfl, h⟩
theorem o_mul (hx : ev t x = .int k m) (hy : ev t y = .int k q) (h : K (.int k (k.wrap (m * q))) S) : vo P rg d (.binOp .mul T x y T') t S K := by rw [vo_bin, hx, hy]; exact ⟨rfl, h⟩
theorem rng_wrap (h : rng m) : IntKind.i64.wrap m = m := wrap_i64_id h.1 h.2
theorem o_addG (hx : ev t x = .int .i64 m) (hy : ev t y = .int .i64 q) (hb : rng (m + q)) (h : K (.int .i64 (m + q)) S) : vo P rg d (.binOp .add T x y T') t S K := o_add hx hy (by rw [rng_wrap hb]; exact h)
theorem o_subG (hx : ev t x = .int .i64 m) (hy : ev t y = .int .i64 q) (hb : rng (m - q)) (h : K (.int .i64 (m - q)) S) : vo P rg d (.binOp .sub T x y T') t S K := o_sub hx hy (by rw [rng_wrap hb]; exact h)
theorem o_mulG (hx : ev t x = .int .i64 m) (hy : ev t y = .int .i64 q) (hb : rng (m * q)) (h : K (.int .i64 (m * q)) S) : vo P rg d (.binOp .mul T x y T') t S K := o_mul hx hy (by rw [rng_wrap hb]; exact h)
theorem o_quo (hx : ev t x = .int k m) (hy : ev t y = .int k q) (hb : q ≠ 0) (h : K (.int k (k.wrap (m.tdiv q))) S) : vo P rg d (.binOp .quo T x y T') t S K := by rw [vo_bin, hx, hy]; exact ⟨rfl, hb, h⟩
theorem o_quoG (hx : ev t x = .int .i64 m) (hy : ev t y = .int .i64 q) (hb : q ≠ 0 ∧ rng (m.tdiv q)) (h : K (.int .i64 (m.tdiv q)) S) : vo P rg d (.binOp .quo T x y T') t S K := o_quo hx hy hb.1 (by rw [rng_wrap hb.2]; exact h)
theorem o_rem (hx : ev t x = .int k m) (hy : ev t y = .int k q) (hb : q ≠ 0) (h : K (.int k (m.tmod q)) S) : vo P rg d (.binOp .rem T x y T') t S K := by rw [vo_bin, hx, hy]; exact ⟨rfl, hb, h⟩
theorem o_and (hx : ev t x = .int k m) (hy : ev t y = .int k q) (h : K (.int k (bits .and k m q)) S) : vo P rg d (.binOp .and T x y T') t S K := by rw [vo_bin, hx, hy]; exact ⟨rfl, h⟩
theorem o_or (hx : ev t x = .int k m) (hy : ev t y = .int k q) (h : K (.int k (bits .or k m q)) S) : vo P rg d (.binOp .or T x y T') t S K := by rw [vo_bin, hx, hy]; exact ⟨rfl, h⟩
theorem o_xor (hx : ev t x = .int k m) (hy : ev t y = .int k q) (h : K (.int k (bits .xor k m q)) S) : vo P rg d (.binOp .xor T x y T') t S K := by rw [vo_bin, hx, hy]; exact ⟨rfl, h⟩
theorem o_andNot (hx : ev t x = .int k m) (hy : ev t y = .int k q) (h : K (.int k (bits .andNot k m q)) S) : vo P rg d (.binOp .andNot T x y T') t S K := by rw [vo_bin, hx, hy]; exact ⟨rfl, h⟩
theorem o_eql (hx : ev t x = .int k m) (hy : ev t y = .int k q) (h : K (.bool (m == q)) S) : vo P rg d (.binOp .eql T x y T') t S K := by rw [vo_bin, hx, hy]; exact ⟨rfl, h⟩
theorem o_neq (hx : ev t x = .int k m) (hy : ev t y = .int k q) (h : K (.bool (m != q)) S) : vo P rg d (.binOp .neq T x y T') t S K := by rw [vo_bin, hx, hy]; exact ⟨rfl, h⟩
theorem o_lss (hx : ev t x = .int k m) (hy : ev t y = .int k q) (h : K (.bool (decide (m < q))) S) : vo P rg d (.binOp .lss T x y T') t S K := by rw [vo_bin, hx, hy]; exact ⟨rfl, h⟩
theorem o_leq (hx : ev t x = .int k m) (hy : ev t y = .int k q) (h : K (.bool (decide (m ≤ q))) S) : vo P rg d (.binOp .leq T x y T') t S K := by rw [vo_bin, hx, hy]; exact ⟨rfl, h⟩
theorem o_gtr (hx : ev t x = .int k m) (hy : ev t y = .int k q) (h : K (.bool (decide (q < m))) S) : vo P rg d (.binOp .gtr T x y T') t S K := by rw [vo_bin, hx, hy]; exact ⟨rfl, h⟩
theorem o_geq (hx : ev t x = .int k m) (hy : ev t y = .int k q) (h : K (.bool (decide (q ≤ m))) S) : vo P rg d (.binOp .geq T x y T') t S K := by rw [vo_bin, hx, hy]; exact ⟨rfl, h⟩
theorem o_shl {k' : IntKind} (hx : ev t x = .int k m) (hy : ev t y = .int k' q) (hb : 0 ≤ q ∧ q ≤ k.bits) (h : K (.int k (k.wrap (m * 2 ^ q.toNat))) S) : vo P rg d (.binOp .shl T x y T') t S K := by rw [vo_bin, hx, hy]; exact ⟨hb.1, hb.2, h⟩
theorem o_shlG {k' : IntKind} (hx : ev t x = .int .i64 m) (hy : ev t y = .int k' q) (hb : (0 ≤ q ∧ q ≤ 64) ∧ rng (m * 2 ^ q.toNat)) (h : K (.int .i64 (m * 2 ^ q.toNat)) S) : vo P rg d (.binOp .shl T x y T') t S K := o_shl hx hy hb.1 (by rw [rng_wrap hb.2]; exact h)
theorem o_shr {k' : IntKind} (hx : ev t x = .int k m) (hy : ev t y = .int k' q) (hb : 0 ≤ q ∧ q ≤ k.bits) (h : K (.int k (m / 2 ^ q.toNat)) S) : vo P rg d (.binOp .shr T x y T') t S K := by rw [vo_bin, hx, hy]; exact ⟨hb.1, hb.2, h⟩
theorem o_eqlB {p r : Bool} (hT : td P T = .bool) (hx : ev t x = .bool p) (hy : ev t y = .bool r) (h : K (.bool (p == r)) S) : vo P rg d (.binOp .eql T x y T') t S K := by rw [vo_bin, hx, hy]; exact ⟨hT, h⟩
theorem o_neqB {p r : Bool} (hT : td P T = .bool) (hx : ev t x = .bool p) (hy : ev t y = .bool r) (h : K (.bool (p != r)) S) : vo P rg d (.binOp .neq T x y T') t S K := by rw [vo_bin, hx, hy]; exact ⟨hT, h⟩
theorem o_isnil {E : TypeId} {o : Option Int} (hT : td P T = .iface) (hx : ev t x = eErr E o) (hy : ev t y = .niface) (hc : (isConst x || isConst y) = true) (h : K (.bool o.isNone) S) : vo P rg d (.binOp .eql T x y T') t S K := by
  rw [vo_bin, hx, hy]
  cases o with
  | none => exact ⟨hT, hc, h⟩
  | some n => exact ⟨hT, h⟩
theorem o_isnon {E : TypeId} {o : Option Int} (hT : td P T = .iface) (hx : ev t x = eErr E o) (hy : ev t y = .niface) (hc : (isConst x || isConst y) = true) (h : K (.bool o.isSome) S) : vo P rg d (.binOp .neq T x y T') t S K := by
  rw [vo_bin, hx, hy]
  cases o with
  | none => exact ⟨hT, hc, h⟩
  | some n => exact ⟨hT, h⟩
theorem o_not {b : Bool} (hx : ev t x = .bool b) (h : K (.bool (!b)) S) : vo P rg d (.unOp .not T x) t S K := by rw [vo_un, hx]; exact h
theorem o_neg (hx : ev t x = .int k m) (h : K (.int k (k.wrap (0 - m))) S) : vo P rg d (.unOp .neg T x) t S K := by rw [vo_un, hx]; exact h
theorem o_negG (hx : ev t x = .int .i64 m) (hb : rng (-m)) (h : K (.int .i64 (-m)) S) : vo P rg d (.unOp .neg T x) t S K := o_neg hx (by rw [Int.zero_sub, rng_wrap hb]; exact h)
theorem o_conv {k' : IntKind} {s : TypeId} (hs : td P s = .int k) (hT : td P T = .int k') (hx : ev t x = .int k m) (h : K (.int k' (k'.wrap m)) S) : vo P rg d (.convert s T x) t S K := by rw [vo_conv, hx, hT, hs]; exact h
theorem o_iface (hT : (match td P T with | .iface | .other => False | _ => True)) (hx : ev t x = v) (h : K (.iface T v) S) : vo P rg d (.makeInterface T x) t S K := by rw [vo_iface, hx]; exact ⟨hT, h⟩
theorem o_func {fn : Fn} {as bs : List Operand} {vs us : List AV} (ha : as.map (ev t) = vs) (hb : bs.map (ev t) = us) (h : K (.fn fn vs us) S) : vo P rg d (.makeFunc fn as.toArray bs.toArray) t S K := by rw [vo_func, ha, hb]; exact h
theorem o_nilI {cs : List AV} (hx : ev t x = .iptr cs) (h : K (.iptr cs) S) : vo P rg d (.nilCheck x) t S K := by rw [vo_nilCheck, hx]; exact ⟨trivial, h⟩
theorem o_nilP {r k g i off : Nat} (hx : ev t x = .ptr r k g i off) (h : K (.ptr r k g i off) S) : vo P rg d (.nilCheck x) t S K := by rw [vo_nilCheck, hx]; exact ⟨trivial, h⟩
theorem o_nilF {f : FuncId} {as bs : List AV} (hx : ev t x = .fn (.func f) as bs) (h : K (.fn (.func f) as bs) S) : vo P rg d (.nilCheck x) t S K := by rw [vo_nilCheck, hx]; exact ⟨trivial, h⟩
theorem o_extract {vs : List AV} {i : Nat} (hx : ev t x = .tuple vs) (hi : Nat.ble (i + 1) vs.length = true) (hv : vs.getD i .junk = v) (h : K v S) : vo P rg d (.extract x i) t S K := by rw [vo_extract, hx]; exact ⟨Nat.le_of_ble_eq_true hi, by rw [hv]; exact h⟩
theorem o_len {α : Type} {enc : α → AV} {l : List α} (hT : td P T = .slice e) (hx : ev t x = eL enc l) (h : K (.int .i64 l.length) S) : vo P rg d (.call { callee := .builtin .len, args := #[x], argTypes := #[T] }) t S K := by rw [vo_len, hx, vLen, hT]; simpa using h
theorem o_lenR {kk r k g off c : Nat} (hT : td P T = .slice e) (hx : ev t x = .sl kk r k g off c) (h : K (.int .i64 c) S) : vo P rg d (.call { callee := .builtin .len, args := #[x], argTypes := #[T] }) t S K := by rw [vo_len, hx, vLen, hT]; exact h
theorem o_lenN (hT : td P T = .slice e) (hx : ev t x = .nil) (h : K (.int .i64 0) S) : vo P rg d (.call { callee := .builtin .len, args := #[x], argTypes := #[T] }) t S K := by rw [vo_len, hx, vLen, hT]; exact h
theorem o_max {ts : Array TypeId} (hx : ev t x = .int k m) (hy : ev t y = .int k q) (h : K (.int k (max m q)) S) : vo P rg d (.call { callee := .builtin .max, args := #[x, y], argTypes := ts }) t S K := by
  rw [vo_max, hx, hy]
  have : (if m < q then q else m) = max m q := by split <;> omega
  simp only [this]; exact h
theorem o_min {ts : Array TypeId} (hx : ev t x = .int k m) (hy : ev t y = .int k q) (h : K (.int k (min m q)) S) : vo P rg d (.call { callee := .builtin .min, args := #[x, y], argTypes := ts }) t S K := by
  rw [vo_min, hx, hy]
  have : (if q < m then q else m) = min m q := by split <;> omega
  simp only [this]; exact h
theorem o_call {f : Operand} {xs : List Operand} {ts : Array TypeId} {g : FuncId} {caps us : List AV} (hf : ev t f = .fn (.func g) [] caps) (ha : VWL (xs.map (ev t) ++ caps) us) (h : Ctr P g us S K) :
    vo P rg d (.call { callee := .value f, args := xs.toArray, argTypes := ts }) t S K := by
  rw [vo_call, hf]
  exact Ctr.arg ha.len (fun i h1 h2 => ha.at i h1 h2) h
theorem o_pick {c : Operand} {b : Bool} (hc : ev t c = .bool b) (hv : (bif b then ev t x else ev t y) = v) (h : K v S) : vo P rg d (.pick c x y) t S K := by rw [vo_pick, hc]; show K (bif b then ev t x else ev t y) S; rw [hv]; exact h
theorem pick_bool {b p r : Bool} : (bif b then AV.bool p else .bool r) = .bool (bif b then p else r) := by cases b <;> rfl
theorem pick_int {b : Bool} : (bif b then AV.int k m else .int k q) = .int k (bif b then m else q) := by cases b <;> rfl

/-! ### Reading -/
theorem getD_map {α : Type} [Inhabited α] {enc : α → AV} {l : List α} {i : Nat} (h : i < l.length) : (l.map enc).getD i .junk = enc (l.getD i default) := by
  rw [List.getD_eq_getElem?_getD, List.getD_eq_getElem?_getD]; simp [h]
theorem o_idxL {α : Type} [Inhabited α] {enc : α → AV} {l : List α} {kk : Nat} (hT : td P T = .slice e) (hs : sz P e = kk) (h0 : 0 < kk) (hk : ∀ z, (enc z).cells.length = kk) (hx : ev t x = eL enc l) (hi : ev t i = .int k m)
    (hb : 0 ≤ m ∧ m < l.length) (h : K (.iptr (enc (at' l m)).cells) S) : vo P rg d (.indexAddr T x i) t S K := by
  rw [vo_indexAddr, hx, hi, vIdxAddr, hT]
  have hlt : m.toNat < l.length := by omega
  have e : (l.map enc).getD m.toNat .junk = enc (at' l m) := getD_map hlt
  refine ⟨⟨hb.1, by simpa using hb.2⟩, ⟨by omega, ?_⟩, ?_⟩
  · rw [e, hk, hs]
  · rw [e]; exact h
theorem o_idxR {kk r k' g off c : Nat} (hT : td P T = .slice e) (hs : sz P e = kk) (h0 : 0 < kk) (hx : ev t x = .sl kk r k' g off c) (hi : ev t i = .int k m) (hb : 0 ≤ m ∧ m < c) (h : K (.ptr r k' g (off + m.toNat) 0) S) : vo P rg d (.indexAddr T x i) t S K := by
  rw [vo_indexAddr, hx, hi, vIdxAddr, hT]
  exact ⟨hb, ⟨h0, hs.symm⟩, h⟩
theorem o_fa {cs : List AV} {fs : List (Nat × TypeId)} {f off : Nat} {et : TypeId} (hT : td P T = .struct fs) (hf : fs.getD f (0, 0) = (off, et)) (hlt : Nat.ble (f + 1) fs.length = true) (hs : 0 < sz P et) (hx : ev t x = .iptr cs) (hl : Nat.ble off cs.length = true)
    (h : K (.iptr (cs.drop off)) S) : vo P rg d (.fieldAddr T x f) t S K := by
  rw [vo_fieldAddr, hx, vFieldAddr, hT]
  refine ⟨Nat.le_of_ble_eq_true hlt, ?_, ?_, ?_⟩
  · rw [hf]; exact hs
  · rw [hf]; exact Nat.le_of_ble_eq_true hl
  · rw [hf]; exact h
theorem o_faP {r k g i off0 : Nat} {fs : List (Nat × TypeId)} {f off : Nat} {et : TypeId} (hT : td P T = .struct fs) (hf : fs.getD f (0, 0) = (off, et)) (hlt : Nat.ble (f + 1) fs.length = true) (hs : 0 < sz P et) (hx : ev t x = .ptr r k g i off0)
    (h : K (.ptr r k g i (off0 + off)) S) : vo P rg d (.fieldAddr T x f) t S K := by
  rw [vo_fieldAddr, hx, vFieldAddr, hT]
  refine ⟨Nat.le_of_ble_eq_true hlt, ?_, ?_⟩
  · rw [hf]; exact hs
  · rw [hf]; exact h
theorem o_field {cs : List AV} {fs : List (Nat × TypeId)} {f off sz' : Nat} {et : TypeId} (hT : td P T = .struct fs) (hf : fs.getD f (0, 0) = (off, et)) (hlt : Nat.ble (f + 1) fs.length = true) (hs : sz P et = sz') (h0 : 0 < sz') (ha : isAggT P et = true ∨ (isAggT P et = false ∧ sz' = 1)) (hx : ev t x = .agg cs) (hl : Nat.ble (off + sz') cs.length = true)
    (hv : (bif isAggT P et then AV.agg ((cs.drop off).take sz') else cs.getD off .junk) = v) (h : K v S) : vo P rg d (.field T x f) t S K := by
  rw [vo_field, hx, vField, hT]
  have := Nat.le_of_ble_eq_true hl
  refine ⟨⟨Nat.le_of_ble_eq_true hlt, ?_, ?_, ?_⟩, ?_⟩
  · rw [hf, hs]; exact h0
  · rw [hf]; intro hh; rcases ha with ha | ha
    · rw [ha] at hh; cases hh
    · rw [hs]; exact ha.2
  · rw [hf, hs]; omega
  · rw [hf]; unfold ldv; rw [hs, hv]; exact h
theorem o_field1 {cs : List AV} {fs : List (Nat × TypeId)} {f off : Nat} {et : TypeId} (hT : td P T = .struct fs) (hf : fs.getD f (0, 0) = (off, et)) (hlt : Nat.ble (f + 1) fs.length = true) (hs : sz P et = 1) (ha : isAggT P et = false) (hx : ev t x = .agg cs) (hl : Nat.ble (off + 1) cs.length = true)
    (hv : cs.getD off .junk = v) (h : K v S) : vo P rg d (.field T x f) t S K :=
  o_field hT hf hlt hs (by omega) (.inr ⟨ha, rfl⟩) hx hl (by rw [ha]; exact hv) h
theorem o_fieldA {cs : List AV} {fs : List (Nat × TypeId)} {f off sz' : Nat} {et : TypeId} (hT : td P T = .struct fs) (hf : fs.getD f (0, 0) = (off, et)) (hlt : Nat.ble (f + 1) fs.length = true) (hs : sz P et = sz') (h0 : 0 < sz') (ha : isAggT P et = true) (hx : ev t x = .agg cs) (hl : Nat.ble (off + sz') cs.length = true)
    (hv : AV.agg ((cs.drop off).take sz') = v) (h : K v S) : vo P rg d (.field T x f) t S K :=
  o_field hT hf hlt hs h0 (.inl ha) hx hl (by rw [ha]; exact hv) h
theorem o_loadI1 {cs : List AV} (hs : sz P T = 1) (ha : isAggT P T = false) (hx : ev t x = .iptr cs) (hl : Nat.ble 1 cs.length = true) (hv : cs.getD 0 .junk = v) (h : K v S) : vo P rg d (.load T x) t S K := by
  rw [vo_load, hx, vLoad]
  refine ⟨⟨by omega, fun _ => hs, by rw [hs]; exact Nat.le_of_ble_eq_true hl⟩, ?_⟩
  unfold ldv; rw [ha, cond_false, hv]; exact h
theorem o_loadIA {cs : List AV} {sz' : Nat} (hs : sz P T = sz') (h0 : 0 < sz') (ha : isAggT P T = true) (hx : ev t x = .iptr cs) (hl : Nat.ble sz' cs.length = true) (hv : AV.agg ((cs.drop 0).take sz') = v) (h : K v S) : vo P rg d (.load T x) t S K := by
  rw [vo_load, hx, vLoad]
  refine ⟨⟨by omega, fun hh => (by rw [ha] at hh; cases hh), by rw [hs]; exact Nat.le_of_ble_eq_true hl⟩, ?_⟩
  unfold ldv; rw [ha, cond_true, hs, hv]; exact h
/-- An element of a row, or its part from 'off' on. -/
theorem o_loadR {r k g i off kk sz' : Nat} {es : List AV} (hS : S r k = some (.arr kk es, g)) (hs : sz P T = sz') (h0 : 0 < sz') (ha : isAggT P T = true ∨ (isAggT P T = false ∧ sz' = 1)) (hx : ev t x = .ptr r k g i off) (hi : i < es.length) (hl : off + sz' ≤ kk)
    (hv : (bif isAggT P T then AV.agg (((es.getD i .junk).cells.drop off).take sz') else (es.getD i .junk).cells.getD off .junk) = v) (h : K v S) : vo P rg d (.load T x) t S K := by
  rw [vo_load, hx, vLoad]
  simp only [hS]
  refine ⟨⟨trivial, hi, by omega, fun hh => ?_, by omega⟩, ?_⟩
  · rcases ha with ha | ha
    · rw [ha] at hh; cases hh
    · rw [hs]; exact ha.2
  · unfold ldv; rw [hs, hv]; exact h
end
end Go.Gg
