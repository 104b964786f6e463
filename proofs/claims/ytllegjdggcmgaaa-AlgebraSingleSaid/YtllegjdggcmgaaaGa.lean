/- An own logic over the kit's weakest preconditions, part A: abstract values, abstract stores, what it means that a concrete world fits them. Conditions: none. -/
import Derived.WalkKit
import Derived.Orders
import Derived.WideKeyRuns
/- An own logic over the kit's weakest preconditions, part A: abstract values, abstract stores, what it means that a concrete world fits them. Conditions: none. -/
namespace Go.Gg
open Go.RowKit (Below)
/-- Abstract values: as the model's, but a slice that nobody writes is the list of its elements, and mutable memory is named by region, key and generation. -/
inductive AV where
  | int (k : IntKind) (n : Int)
  | bool (b : Bool)
  | str (s : ByteArray)
  | nilp
  | ptr (r k g i off : Nat)
  | iptr (cs : List AV)
  | nil
  | list (es : List AV)
  | sl (kk r k g off len : Nat)
  | nilmap
  | map (r k g : Nat)
  | fn (f : Fn) (first caps : List AV)
  | nilf
  | niface
  | iface (t : TypeId) (v : AV)
  | agg (cs : List AV)
  | tuple (vs : List AV)
  | junk
  deriving Inhabited
def AV.cells : AV → List AV
  | .agg cs => cs
  | v => [v]
/-- A value of one cell, of which that is known. -/
def AV.one : AV → Bool
  | .agg _ | .tuple _ | .junk => false
  | _ => true
/-- A value whose cells are known to be as many as listed. -/
def AV.solid : AV → Bool
  | .agg _ => true
  | v => v.one
structure Loc where
  block : Nat
  cap : Nat
  k : Nat
  t : TypeId
structure Ghost where
  init : World
  imm : Nat → Nat → Option Value
  loc : Nat → Nat → Nat → Option Loc
structure Ghost.le (G G' : Ghost) : Prop where
  init : G'.init = G.init
  imm : ∀ b o u, G.imm b o = some u → G'.imm b o = some u
  loc : ∀ r k g L, G.loc r k g = some L → G'.loc r k g = some L
theorem Ghost.le.refl (G : Ghost) : G.le G := ⟨rfl, fun _ _ _ h => h, fun _ _ _ _ h => h⟩
theorem Ghost.le.trans {A B C : Ghost} (h : A.le B) (h' : B.le C) : A.le C :=
  ⟨h'.init.trans h.init, fun b o u e => h'.imm b o u (h.imm b o u e), fun r k g L e => h'.loc r k g L (h.loc r k g L e)⟩
/-- The concrete value fits the abstract one. -/
inductive VR (G : Ghost) : AV → Value → Prop where
  | int (k : IntKind) (n : Int) : VR G (.int k n) (.int k n)
  | bool (b : Bool) : VR G (.bool b) (.bool b)
  | str (s : ByteArray) : VR G (.str s) (.string s)
  | nilp : VR G .nilp (.pointer none)
  | ptr (r k g i off : Nat) (L : Loc) : G.loc r k g = some L → VR G (.ptr r k g i off) (.pointer (some ⟨L.block, i * L.k + off, none⟩))
  | iptr (cs : List AV) (c x : Nat) (u : Nat → Value) : (∀ j, j < cs.length → G.imm c (x + j) = some (u j)) →
      (∀ j (h : j < cs.length), VR G cs[j] (u j)) → VR G (.iptr cs) (.pointer (some ⟨c, x, none⟩))
  | nil : VR G .nil (.slice none 0 0)
  | list (es : List AV) (a : Option Addr) (n cap c x k : Nat) (u : Nat → Nat → Value) : n = es.length → n ≤ cap → cap ≤ maxLen → (0 < n → a = some ⟨c, x, none⟩) →
      (∀ i (h : i < es.length), es[i].cells.length = k) → (∀ i j, i < n → j < k → G.imm c (x + (i * k + j)) = some (u i j)) →
      (∀ i (h : i < es.length) j (h' : j < es[i].cells.length), VR G es[i].cells[j] (u i j)) → VR G (.list es) (.slice a n cap)
  | sl (kk r k g off len : Nat) (a : Option Addr) (L : Loc) : G.loc r k g = some L → L.k = kk → off + len ≤ L.cap → L.cap ≤ maxLen → (off < L.cap → a = some ⟨L.block, off * L.k, none⟩) →
      VR G (.sl kk r k g off len) (.slice a len (L.cap - off))
  | nilmap : VR G .nilmap (.map none)
  | map (r k g : Nat) (L : Loc) : G.loc r k g = some L → VR G (.map r k g) (.map (some L.block))
  | fn (f : Fn) (first caps : List AV) (fs cs : Array Value) : fs.size = first.length → cs.size = caps.length →
      (∀ i (h : i < first.length) (h' : i < fs.size), VR G first[i] fs[i]) → (∀ i (h : i < caps.length) (h' : i < cs.size), VR G caps[i] cs[i]) → VR G (.fn f first caps) (.func f fs cs)
  | nilf : VR G .nilf .nilFunc
  | niface : VR G .niface .nilIface
  | iface (t : TypeId) (v : AV) (x : Value) : VR G v x → VR G (.iface t v) (.iface t x)
  | agg (cs : List AV) (xs : Array Value) : xs.size = cs.length → (∀ i (h : i < cs.length) (h' : i < xs.size), VR G cs[i] xs[i]) → VR G (.agg cs) (.agg xs)
  | tuple (cs : List AV) (xs : Array Value) : xs.size = cs.length → (∀ i (h : i < cs.length) (h' : i < xs.size), VR G cs[i] xs[i]) → VR G (.tuple cs) (.tuple xs)
  | junk (x : Value) : VR G .junk x
theorem VR.mono {G G' : Ghost} {a : AV} {v : Value} (h : VR G a v) (hg : G.le G') : VR G' a v := by
  induction h with
  | int k n => exact .int k n
  | bool b => exact .bool b
  | str s => exact .str s
  | nilp => exact .nilp
  | ptr r k g i off L h => exact .ptr r k g i off L (hg.loc _ _ _ _ h)
  | iptr cs c x u h1 _ ih => exact .iptr cs c x u (fun j hj => hg.imm _ _ _ (h1 j hj)) ih
  | nil => exact .nil
  | list es a n cap c x k u h1 h2 h2' h3 h4 h5 _ ih => exact .list es a n cap c x k u h1 h2 h2' h3 h4 (fun i j hi hj => hg.imm _ _ _ (h5 i j hi hj)) ih
  | sl kk r k g off len a L h1 h0 h2 h2' h3 => exact .sl kk r k g off len a L (hg.loc _ _ _ _ h1) h0 h2 h2' h3
  | nilmap => exact .nilmap
  | map r k g L h => exact .map r k g L (hg.loc _ _ _ _ h)
  | fn f first caps fs cs h1 h2 _ _ ih1 ih2 => exact .fn f first caps fs cs h1 h2 ih1 ih2
  | nilf => exact .nilf
  | niface => exact .niface
  | iface t v x _ ih => exact .iface t v x ih
  | agg cs xs h1 _ ih => exact .agg cs xs h1 ih
  | tuple cs xs h1 _ ih => exact .tuple cs xs h1 ih
  | junk x => exact .junk x
/-- The cells of a value that fits fit the abstract cells. -/
theorem VR.cells {G : Ghost} {a : AV} {v : Value} (h : VR G a v) (hs : a.solid = true) :
    v.cells.size = a.cells.length ∧ ∀ j (h1 : j < a.cells.length) (h2 : j < v.cells.size), VR G a.cells[j] v.cells[j] := by
  cases h <;> first
    | (simp [AV.solid, AV.one] at hs; done)
    | (rename_i hsz hel; exact ⟨hsz, hel⟩)
    | (refine ⟨by simp [Value.cells, AV.cells], fun j h1 h2 => ?_⟩
       simp only [AV.cells, List.length_singleton] at h1
       obtain rfl : j = 0 := by omega
       first
         | exact .int _ _ | exact .bool _ | exact .str _ | exact .nilp | exact .nil | exact .nilmap | exact .nilf | exact .niface
         | (rename_i q1 q2 q3 q4 q5 q6 q7; exact .list _ _ _ _ _ _ _ _ q1 q2 q3 q4 q5 q6 q7)
         | (rename_i q1 q2 q3 q4 q5; exact .sl _ _ _ _ _ _ _ _ q1 q2 q3 q4 q5)
         | (rename_i q1 q2 q3 q4; exact .fn _ _ _ _ _ q1 q2 q3 q4)
         | (rename_i q q'; exact .iptr _ _ _ _ q q')
         | (rename_i q; first | exact .ptr _ _ _ _ _ _ q | exact .map _ _ _ _ q | exact .iface _ _ _ q))
theorem VR.oneCell {G : Ghost} {a : AV} {v : Value} (h : VR G a v) (hs : a.one = true) : v.oneCell' = true := by
  cases h <;> first | rfl | (simp [AV.one] at hs)
/-! ### Stores -/
/-- An object: a row of elements of k cells each, or a map with n entries, its keys lists of integers. -/
inductive KShape where
  | one (k : IntKind)
  | many (ks : List IntKind)
  deriving DecidableEq
inductive GObj where
  | arr (k : Nat) (es : List AV)
  | mp (sh : KShape) (n : Nat) (m : List Int → Option AV)
abbrev St := Nat → Nat → Option (GObj × Nat)
def St.set (S : St) (r k : Nat) (o : GObj) (g : Nat) : St := fun r' k' => if r' = r ∧ k' = k then some (o, g) else S r' k'
def St.del (S : St) (r k : Nat) : St := fun r' k' => if r' = r ∧ k' = k then none else S r' k'
def St.clear (S : St) (r : Nat) : St := fun r' k' => if r' = r then none else S r' k'
/-- S' knows no more than S. -/
def St.sub (S' S : St) : Prop := ∀ r k x, S' r k = some x → S r k = some x
def mkKey : KShape → List Int → Option Value
  | .one k, [n] => some (.int k n)
  | .many ks, ns => if ks.length = ns.length then some (.agg ((ks.zip ns).map fun (k, n) => Value.int k n).toArray) else none
  | _, _ => none
def ObjAt (G : Ghost) (w : World) (L : Loc) : GObj → Prop
  | .arr kk es => 0 < kk ∧ L.k = kk ∧ es.length ≤ L.cap ∧ L.cap ≤ maxLen ∧ (∀ i (h : i < es.length), es[i].cells.length = kk) ∧
      (0 < L.cap → ∃ row : Array Value, w.heap[L.block]? = some (.cells row L.t (0, 0)) ∧ row.size = L.cap * kk ∧
        ∀ i (h : i < es.length) j (h' : j < es[i].cells.length), ∃ x, row[i * kk + j]? = some x ∧ VR G es[i].cells[j] x)
  | .mp sh n m => 0 < L.cap ∧ ∃ (ents : Array MapEntry) (clock : Nat), w.heap[L.block]? = some (.map ents clock) ∧ ents.size = n ∧
      (∀ e ∈ ents.toList, ∃ ns v, mkKey sh ns = some e.key ∧ m ns = some v ∧ VR G v e.val) ∧
      (∀ ns v, m ns = some v → ∃ e ∈ ents.toList, mkKey sh ns = some e.key) ∧
      (ents.toList.map (·.key)).Pairwise (fun a b => ∀ ns ns', mkKey sh ns = some a → mkKey sh ns' = some b → ns ≠ ns')
structure Rel (G : Ghost) (S : St) (w : World) : Prop where
  below : Below G.init.heap.size G.init w
  imm : ∀ b o u, G.imm b o = some u → w.cell? ⟨b, o, none⟩ = some u
  obj : ∀ r k o g, S r k = some (o, g) → ∃ L, G.loc r k g = some L ∧ ObjAt G w L o ∧ (0 < L.cap → G.init.heap.size ≤ L.block ∧ ∀ x, G.imm L.block x = none)
  inj : ∀ r k o g r' k' o' g' L L', S r k = some (o, g) → S r' k' = some (o', g') → G.loc r k g = some L → G.loc r' k' g' = some L' →
    0 < L.cap → 0 < L'.cap → ¬ (r = r' ∧ k = k') → L.block ≠ L'.block
  fin : ∃ N, ∀ r, N ≤ r → ∀ k, S r k = none
  fing : ∀ r k, ∃ N, ∀ g, N ≤ g → G.loc r k g = none
theorem Rel.sub {G : Ghost} {S S' : St} {w : World} (h : Rel G S w) (hs : S'.sub S) : Rel G S' w := by
  refine ⟨h.below, h.imm, fun r k o g e => h.obj r k o g (hs _ _ _ e), fun r k o g r' k' o' g' L L' e e' => h.inj r k o g r' k' o' g' L L' (hs _ _ _ e) (hs _ _ _ e'), ?_, h.fing⟩
  obtain ⟨N, hN⟩ := h.fin
  refine ⟨N, fun r hr k => ?_⟩
  cases e : S' r k with
  | none => rfl
  | some x => have := hs _ _ _ e; rw [hN r hr k] at this; cases this
/-! ### Frames -/
abbrev Env := Nat → AV
def upd (t : Env) (d : Nat) (v : AV) : Env := fun k => if k = d then v else t k
def updo (t : Env) (d : Option Nat) (v : AV) : Env := match d with | some d => upd t d v | none => t
def ofConst1 : Value → AV
  | .int k n => .int k n
  | .bool b => .bool b
  | .string s => .str s
  | .pointer a => match a with | none => .nilp | some _ => .junk
  | .slice a n c => match a, n, c with | none, 0, 0 => .nil | _, _, _ => .junk
  | .map a => match a with | none => .nilmap | some _ => .junk
  | .nilFunc => .nilf
  | .nilIface => .niface
  | .func f fs cs => match fs.toList, cs.toList with | [], [] => .fn f [] [] | _, _ => .junk
  | .iface t (.int k n) => .iface t (.int k n)
  | _ => .junk
def ofConst : Value → AV
  | .agg cs => .agg (cs.toList.map ofConst1)
  | v => ofConst1 v
theorem VR.ofConst1 (G : Ghost) (v : Value) : VR G (Gg.ofConst1 v) v := by
  cases v <;> try exact .junk _
  case int => exact .int _ _
  case bool => exact .bool _
  case string => exact .str _
  case nilFunc => exact .nilf
  case nilIface => exact .niface
  case pointer a => cases a; exact .nilp; exact .junk _
  case map a => cases a; exact .nilmap; exact .junk _
  case slice a n c =>
    simp only [Gg.ofConst1]
    split
    · exact .nil
    · exact .junk _
  case func f fs cs =>
    simp only [Gg.ofConst1]
    split
    · rename_i h1 h2
      obtain rfl : fs = #[] := by cases fs; simp_all
      obtain rfl : cs = #[] := by cases cs; simp_all
      exact .fn _ [] [] #[] #[] rfl rfl (fun i h => by simp at h) (fun i h => by simp at h)
    · exact .junk _
  case iface t v =>
    cases v <;> first | exact .junk _ | exact .iface _ _ _ (.int _ _)
theorem VR.ofConst (G : Ghost) (v : Value) : VR G (Gg.ofConst v) v := by
  cases v
  case agg cs =>
    refine .agg _ _ (by simp) (fun i h h' => ?_)
    simp only [List.getElem_map, Array.getElem_toList]
    exact VR.ofConst1 G _
  all_goals (simp only [Gg.ofConst]; exact VR.ofConst1 G _)
def ev (t : Env) : Operand → AV
  | .tmp i => t i
  | .const v => ofConst v
  | .global _ => .junk
  | .func f => .fn (.func f) [] []
def TR (n : Nat) (G : Ghost) (t : Env) (a : Act) : Prop := a.defers = [] ∧ a.tmps.size = n ∧ ∀ i, VR G (t i) (a.tmps.getD i undef)
theorem TR.eval {n : Nat} {G : Ghost} {t : Env} {a : Act} (h : TR n G t a) (x : Operand) : VR G (ev t x) (a.eval x) := by
  cases x with
  | tmp i => exact h.2.2 i
  | const v => exact VR.ofConst G v
  | global g => exact .junk _
  | func f => exact .fn _ [] [] #[] #[] rfl rfl (fun i h => by simp at h) (fun i h => by simp at h)
theorem TR.mono {n : Nat} {G G' : Ghost} {t : Env} {a : Act} (h : TR n G t a) (hg : G.le G') : TR n G' t a := ⟨h.1, h.2.1, fun i => (h.2.2 i).mono hg⟩
theorem TR.put {n : Nat} {G : Ghost} {t : Env} {a : Act} (h : TR n G t a) {d : Option Nat} {v : AV} {x : Value} (hd : ∀ k, d = some k → k < n) (hv : VR G v x) :
    TR n G (updo t d v) (a.put d x) := by
  cases d with
  | none => exact h
  | some d =>
    refine ⟨h.1, by simpa [Act.put] using h.2.1, fun i => ?_⟩
    have hdn := hd d rfl
    simp only [updo, upd, Act.put]
    by_cases e : i = d
    · subst e
      have : i < a.tmps.size := by rw [h.2.1]; exact hdn
      simpa [Array.getD_eq_getD_getElem?, this] using hv
    · rw [if_neg e]
      have := h.2.2 i
      simp only [Array.getD_eq_getD_getElem?] at this ⊢
      rw [Array.getElem?_setIfInBounds_ne (Ne.symm e)]
      exact this
end Go.Gg
namespace Go.Gg
open Go.RowKit (Below)
theorem ObjAt.keep {G G' : Ghost} {w w' : World} {L : Loc} {o : GObj} (h : ObjAt G w L o) (hg : G.le G') (hw : 0 < L.cap → w'.heap[L.block]? = w.heap[L.block]?) : ObjAt G' w' L o := by
  cases o with
  | arr kk es =>
    obtain ⟨h1, h2, h3, h3', h4, h5⟩ := h
    refine ⟨h1, h2, h3, h3', h4, fun hc => ?_⟩
    obtain ⟨row, hr, hs, hel⟩ := h5 hc
    exact ⟨row, (hw hc).trans hr, hs, fun i hi j hj => let ⟨x, hx, hv⟩ := hel i hi j hj; ⟨x, hx, hv.mono hg⟩⟩
  | mp sh n m =>
    obtain ⟨h0, ents, clock, h1, h2, h3, h4, h5⟩ := h
    exact ⟨h0, ents, clock, (hw h0).trans h1, h2, fun e he => let ⟨ns, v, a, b, c⟩ := h3 e he; ⟨ns, v, a, b, c.mono hg⟩, h4, h5⟩
theorem ObjAt.lt {G : Ghost} {w : World} {L : Loc} {o : GObj} (h : ObjAt G w L o) (hc : 0 < L.cap) : L.block < w.heap.size := by
  cases o with
  | arr kk es =>
    obtain ⟨_, _, _, _, _, h5⟩ := h
    obtain ⟨row, hr, _⟩ := h5 hc
    exact (Array.getElem?_eq_some_iff.1 hr).1
  | mp sh n m =>
    obtain ⟨_, ents, clock, h1, _⟩ := h
    exact (Array.getElem?_eq_some_iff.1 h1).1
/-- The object that stands at a key, its place. -/
def Held (G : Ghost) (S : St) (r k b : Nat) : Prop := ∃ o g L, S r k = some (o, g) ∧ G.loc r k g = some L ∧ 0 < L.cap ∧ L.block = b
theorem Rel.put {G : Ghost} {S : St} {w w' : World} (h : Rel G S w) {row : Option Nat} (hg : w.grownBy w' row) (r k g : Nat) (obj : GObj) (L : Loc)
    (hrow : ∀ b, row = some b → Held G S r k b) (hL : 0 < L.cap → w.heap.size ≤ L.block ∨ Held G S r k L.block)
    (hloc : G.loc r k g = none ∨ G.loc r k g = some L) (hobj : ∀ G', G.le G' → ObjAt G' w' L obj) :
    ∃ G', G.le G' ∧ G'.loc r k g = some L ∧ G'.imm = G.imm ∧ Rel G' (S.set r k obj g) w' := by
  let G' : Ghost := { G with loc := fun r' k' g' => if r' = r ∧ k' = k ∧ g' = g then some L else G.loc r' k' g' }
  have hle : G.le G' := by
    refine ⟨rfl, fun _ _ _ e => e, fun r' k' g' L' e => ?_⟩
    show (if r' = r ∧ k' = k ∧ g' = g then some L else G.loc r' k' g') = some L'
    by_cases hc : r' = r ∧ k' = k ∧ g' = g
    · obtain ⟨rfl, rfl, rfl⟩ := hc
      rw [if_pos ⟨rfl, rfl, rfl⟩]
      rcases hloc with h0 | h0
      · rw [h0] at e; cases e
      · rw [h0] at e; exact e
    · rw [if_neg hc]; exact e
  have hat : G'.loc r k g = some L := by show (if r = r ∧ k = k ∧ g = g then some L else G.loc r k g) = some L; simp
  have hold : ∀ r' k' (_ : GObj) g', ¬ (r' = r ∧ k' = k) → G'.loc r' k' g' = G.loc r' k' g' := fun r' k' _ g' hne => by
    show (if r' = r ∧ k' = k ∧ g' = g then some L else G.loc r' k' g') = _
    rw [if_neg (fun hc => hne ⟨hc.1, hc.2.1⟩)]
  have heldlt : ∀ b, Held G S r k b → G.init.heap.size ≤ b ∧ b < w.heap.size ∧ ∀ x, G.imm b x = none := by
    rintro b ⟨o, g0, L0, e1, e2, e3, rfl⟩
    obtain ⟨L1, f1, f2, f3⟩ := h.obj _ _ _ _ e1
    rw [e2] at f1; cases f1
    exact ⟨(f3 e3).1, f2.lt e3, (f3 e3).2⟩
  refine ⟨G', hle, hat, rfl, ?_, ?_, ?_, ?_, ?_, ?_⟩
  · refine h.below.trans ⟨hg.os, hg.tape, hg.output, hg.size, fun b hb => hg.block b (Nat.lt_of_lt_of_le hb h.below.size) (fun e => ?_)⟩
    have := heldlt b (hrow b e.symm)
    have hb' : b < G.init.heap.size := hb
    omega
  · intro b o u e
    have hc := h.imm b o u e
    refine hg.cell hc (fun e' => ?_)
    have := (heldlt b (hrow b e'.symm)).2.2 o
    have e2 : G.imm b o = some u := e
    rw [this] at e2; cases e2
  · intro r' k' o' g' e
    simp only [St.set] at e
    split at e
    · rename_i hc
      obtain ⟨rfl, rfl⟩ := hc
      cases e
      refine ⟨L, hat, hobj G' hle, fun hc => ?_⟩
      rcases hL hc with h1 | h1
      · refine ⟨Nat.le_trans h.below.size h1, fun x => ?_⟩
        cases e : G.imm L.block x with
        | none => rfl
        | some u =>
          have := World.block_lt_of_cell? w _ (h.imm _ _ _ e)
          simp at this; omega
      · have := heldlt _ h1
        exact ⟨this.1, this.2.2⟩
    · rename_i hne
      obtain ⟨L', f1, f2, f3⟩ := h.obj _ _ _ _ e
      refine ⟨L', (hold r' k' o' g' hne).trans f1, f2.keep hle (fun hc => ?_), f3⟩
      refine hg.block _ (f2.lt hc) (fun e' => ?_)
      obtain ⟨o, g0, L0, e1, e2, e3, e4⟩ := hrow _ e'.symm
      exact h.inj _ _ _ _ _ _ _ _ _ _ e e1 f1 e2 hc e3 hne e4.symm
  · intro r1 k1 o1 g1 r2 k2 o2 g2 L1 L2 e1 e2 f1 f2 c1 c2 hne
    simp only [St.set] at e1 e2
    have key : ∀ r' k' o' g' L', S r' k' = some (o', g') → G.loc r' k' g' = some L' → 0 < L'.cap → ¬ (r' = r ∧ k' = k) → 0 < L.cap → L.block ≠ L'.block := by
      intro r' k' o' g' L' e f c hn hcap
      rcases hL hcap with h1 | h1
      · obtain ⟨L3, q1, q2, _⟩ := h.obj _ _ _ _ e
        rw [f] at q1; cases q1
        have := q2.lt c
        omega
      · obtain ⟨o, g0, L0, e3, e4, e5, e6⟩ := h1
        rw [← e6]
        exact h.inj _ _ _ _ _ _ _ _ _ _ e3 e e4 f e5 c (fun hc => hn ⟨hc.1.symm, hc.2.symm⟩)
    by_cases hc1 : r1 = r ∧ k1 = k
    · rw [if_pos hc1] at e1; cases e1
      obtain ⟨rfl, rfl⟩ := hc1
      rw [hat] at f1; cases f1
      rw [if_neg (fun hc => hne ⟨hc.1.symm, hc.2.symm⟩)] at e2
      rw [hold r2 k2 o2 g2 (fun hc => hne ⟨hc.1.symm, hc.2.symm⟩)] at f2
      exact key _ _ _ _ _ e2 f2 c2 (fun hc => hne ⟨hc.1.symm, hc.2.symm⟩) c1
    · rw [if_neg hc1] at e1
      rw [hold r1 k1 o1 g1 hc1] at f1
      by_cases hc2 : r2 = r ∧ k2 = k
      · rw [if_pos hc2] at e2; cases e2
        obtain ⟨rfl, rfl⟩ := hc2
        rw [hat] at f2; cases f2
        exact (key _ _ _ _ _ e1 f1 c1 hc1 c2).symm
      · rw [if_neg hc2] at e2
        rw [hold r2 k2 o2 g2 hc2] at f2
        exact h.inj _ _ _ _ _ _ _ _ _ _ e1 e2 f1 f2 c1 c2 hne
  · obtain ⟨N, hN⟩ := h.fin
    refine ⟨max N (r + 1), fun r' hr' k' => ?_⟩
    simp only [St.set]
    rw [if_neg (fun hc => by omega)]
    exact hN r' (by omega) k'
  · intro r' k'
    obtain ⟨N, hN⟩ := h.fing r' k'
    refine ⟨max N (g + 1), fun g' hg' => ?_⟩
    show (if r' = r ∧ k' = k ∧ g' = g then some L else G.loc r' k' g') = none
    rw [if_neg (fun hc => by omega)]
    exact hN g' (by omega)
theorem Rel.fresh {G : Ghost} {S : St} {w : World} (h : Rel G S w) (r k : Nat) : ∃ g, G.loc r k g = none := let ⟨N, hN⟩ := h.fing r k; ⟨N, hN N (Nat.le_refl _)⟩
theorem Rel.freshRegion {G : Ghost} {S : St} {w : World} (h : Rel G S w) : ∃ r, ∀ k, S r k = none := let ⟨N, hN⟩ := h.fin; ⟨N, hN N (Nat.le_refl _)⟩
/-- Draws change nothing. -/
theorem grownRefl (w : World) : w.grownBy w none := ⟨rfl, rfl, rfl, Nat.le_refl _, fun _ _ _ => rfl⟩
theorem grownBy_drew (w : World) (o : Obj) : w.grownBy (w.drew.alloc o) none := ⟨rfl, rfl, rfl, by simp, fun k hk _ => Below.heap_alloc w.drew o k hk⟩
theorem Rel.drawn {G : Ghost} {S : St} {w : World} (h : Rel G S w) (n : Nat) : Rel G S { w with drawn := n } :=
  ⟨⟨h.below.os, h.below.tape, h.below.output, h.below.size, h.below.block⟩, h.imm, fun r k o g e => let ⟨L, a, b, c⟩ := h.obj r k o g e; ⟨L, a, b.keep (Ghost.le.refl G) (fun _ => rfl), c⟩, h.inj, h.fin, h.fing⟩
/-! ### Cells of an element: flat positions -/
theorem flat_eq {k i j i' j' : Nat} (hj : j < k) (hj' : j' < k) (h : i * k + j = i' * k + j') : i = i' ∧ j = j' := by
  have h1 : (i * k + j) / k = i := by rw [Nat.mul_comm, Nat.mul_add_div (by omega), Nat.div_eq_of_lt hj]; rfl
  have h2 : (i' * k + j') / k = i' := by rw [Nat.mul_comm, Nat.mul_add_div (by omega), Nat.div_eq_of_lt hj']; rfl
  have : i = i' := by rw [← h1, h, h2]
  subst this
  exact ⟨rfl, by omega⟩
theorem flat_lt {k i j n : Nat} (hi : i < n) (hj : j < k) : i * k + j < n * k := by
  have : (i + 1) * k ≤ n * k := Nat.mul_le_mul_right _ hi
  rw [Nat.succ_mul] at this
  omega
/-- What is read at a place of an object. -/
theorem ObjAt.cell {G : Ghost} {w : World} {L : Loc} {kk : Nat} {es : List AV} (h : ObjAt G w L (.arr kk es)) {i j : Nat} (hi : i < es.length) (hj : j < kk) :
    ∃ x, w.cell? ⟨L.block, i * L.k + j, none⟩ = some x ∧ VR G (es[i].cells[j]'(by obtain ⟨_, _, _, _, h4, _⟩ := h; rw [h4 i hi]; exact hj)) x := by
  obtain ⟨h1, h2, h3, _, h4, h5⟩ := h
  obtain ⟨row, hr, hs, hel⟩ := h5 (by omega)
  obtain ⟨x, hx, hv⟩ := hel i hi j (by rw [h4 i hi]; exact hj)
  refine ⟨x, ?_, hv⟩
  rw [cell_of_row w _ _ row _ _ hr, h2]
  exact hx
end Go.Gg
namespace Go.Gg
/-! ### The types' table -/
inductive TD where
  | bool | int (k : IntKind) | str | ptr | slice (e : TypeId) | array (n : Nat) (e : TypeId) | map (k e : TypeId) | struct (fs : List (Nat × TypeId)) | func | iface | other
def td (P : Program) (T : TypeId) : TD :=
  match P.underlying T with
  | some .bool => .bool
  | some (.int k) => .int k
  | some .string => .str
  | some (.pointer _) => .ptr
  | some (.slice e) => .slice e
  | some (.array n e) => .array n e
  | some (.map k e) => .map k e
  | some (.struct fs) => .struct (fs.toList.map fun f => (f.offset, f.type))
  | some (.func ..) => .func
  | some (.interface _) => .iface
  | _ => .other
def sz (P : Program) (T : TypeId) : Nat := match P.info? T, P.underlying T with | some i, some _ => i.size | _, _ => 0
def bts (P : Program) (T : TypeId) : Nat := match P.info? T with | some i => i.bytes | none => 0
def zval (P : Program) (T : TypeId) : Value := match P.info? T with | some i => i.zero.getD undef | none => undef
def zav (P : Program) (T : TypeId) : AV := ofConst (zval P T)
/-- The zero value is there, and of the type's size. -/
def tyok (P : Program) (T : TypeId) : Bool := match P.info? T with
  | some i => (match i.zero with | some z => z.cells.size == i.size && z.cells.all (fun c => (ofConst c).one) && (ofConst z).solid && decide (0 < i.size) | none => false)
  | none => false
def isAggT (P : Program) (T : TypeId) : Bool := match td P T with | .struct _ | .array _ _ => true | _ => false
/-- The value of type T whose cells begin at 'off'. -/
def ldv (P : Program) (T : TypeId) (cs : List AV) (off : Nat) : AV := bif isAggT P T then .agg ((cs.drop off).take (sz P T)) else cs.getD off .junk
/-- An element behind a store of the value x from its cell 'off' on. -/
def stv (v : AV) (off : Nat) (x : AV) : AV := match v with
  | .agg l => .agg (l.take off ++ x.cells ++ l.drop (off + x.cells.length))
  | _ => x
def allOne (l : List AV) : Bool := l.all AV.one
/-- All places of the list's elements hold one value each. -/
def keyL : List IntKind → List AV → Option (List Int)
  | [], [] => some []
  | k :: ks, .int k' n :: cs => if k = k' then (match keyL ks cs with | some ns => some (n :: ns) | none => none) else none
  | _, _ => none
def mapKey (sh : KShape) : AV → Option (List Int)
  | .int k n => match sh with | .one k' => if k = k' then some [n] else none | _ => none
  | .agg cs => match sh with
    | .many ks => keyL ks cs
    | _ => none
  | _ => none
def intK (P : Program) (T : TypeId) : Option IntKind := match P.underlying T with | some (.int k) => some k | _ => none
def intKs (P : Program) : List TypeId → Option (List IntKind)
  | [] => some []
  | T :: l => match intK P T, intKs P l with | some k, some ks => some (k :: ks) | _, _ => none
/-- The cells of a type whose values are integers, one cell each. -/
def kshape (P : Program) (T : TypeId) : Option KShape := match P.underlying T with
  | some (.int k) => some (.one k)
  | some (.struct fs) => if (!P.stoodInHeld T && (fs.toList.map (·.offset) == List.range fs.toList.length) && fs.toList.all (·.name != "_")) = true then (intKs P (fs.toList.map (·.type))).map .many else none
  | some (.array n e) => if sz P e = 1 then (intK P e).map fun k => .many (List.replicate n k) else none
  | _ => none
/-! ### Integers -/
def vBits (op : BinOp) (k : IntKind) (m n : Int) (K : AV → Prop) : Prop :=
  match op with
  | .add => K (.int k (k.wrap (m + n)))
  | .sub => K (.int k (k.wrap (m - n)))
  | .mul => K (.int k (k.wrap (m * n)))
  | .quo => n ≠ 0 ∧ K (.int k (k.wrap (m.tdiv n)))
  | .rem => n ≠ 0 ∧ K (.int k (m.tmod n))
  | .and | .or | .xor | .andNot => K (.int k (bits op k m n))
  | .eql => K (.bool (m == n))
  | .neq => K (.bool (m != n))
  | .lss => K (.bool (decide (m < n)))
  | .leq => K (.bool (decide (m ≤ n)))
  | .gtr => K (.bool (decide (n < m)))
  | .geq => K (.bool (decide (n ≤ m)))
  | _ => False
def vShift (op : BinOp) (k : IntKind) (m n : Int) (K : AV → Prop) : Prop :=
  match op with
  | .shl => 0 ≤ n ∧ n ≤ k.bits ∧ K (.int k (k.wrap (m * 2 ^ n.toNat)))
  | .shr => 0 ≤ n ∧ n ≤ k.bits ∧ K (.int k (m / 2 ^ n.toNat))
  | _ => False
def isConst : Operand → Bool | .const _ => true | _ => false
def vBin (P : Program) (op : BinOp) (T : TypeId) (x y : Operand) (a b : AV) (K : AV → Prop) : Prop :=
  match a, b with
  | .int k m, .int k' n => match op with
    | .shl | .shr => vShift op k m n K
    | _ => k = k' ∧ vBits op k m n K
  | .bool p, .bool q => td P T = .bool ∧ (match op with | .eql => K (.bool (p == q)) | .neq => K (.bool (p != q)) | _ => False)
  | .niface, .niface => td P T = .iface ∧ (isConst x || isConst y) = true ∧ (match op with | .eql => K (.bool true) | .neq => K (.bool false) | _ => False)
  | .iface _ _, .niface | .niface, .iface _ _ => td P T = .iface ∧ (match op with | .eql => K (.bool false) | .neq => K (.bool true) | _ => False)
  | .agg cs, .agg ds => match kshape P T with
    | some (.many ks) => match keyL ks cs, keyL ks ds with
      | some m, some n => (match op with | .eql => K (.bool (decide (m = n))) | .neq => K (.bool (!decide (m = n))) | _ => False)
      | _, _ => False
    | _ => False
  | _, _ => False
def vUn (op : UnOp) (a : AV) (K : AV → Prop) : Prop :=
  match op, a with
  | .not, .bool b => K (.bool (!b))
  | .neg, .int k n => K (.int k (k.wrap (0 - n)))
  | .xor, .int k n => K (.int k (bits .xor k (if k.signed then -1 else k.max) n))
  | _, _ => False
def vLoad (P : Program) (T : TypeId) (a : AV) (S : St) (K : AV → Prop) : Prop :=
  match a with
  | .ptr r k g i off => match S r k with
    | some (.arr kk es, g') => (g' = g ∧ i < es.length ∧ 0 < sz P T ∧ (isAggT P T = false → sz P T = 1) ∧ off + sz P T ≤ kk) ∧ K (ldv P T (es.getD i .junk).cells off)
    | _ => False
  | .iptr cs => (0 < sz P T ∧ (isAggT P T = false → sz P T = 1) ∧ sz P T ≤ cs.length) ∧ K (ldv P T cs 0)
  | _ => False
def vIdxAddr (P : Program) (T : TypeId) (x i : AV) (K : AV → Prop) : Prop :=
  match i with
  | .int _ n => match td P T with
    | .slice e => match x with
      | .sl kk r k g off len => (0 ≤ n ∧ n < len) ∧ (0 < kk ∧ kk = sz P e) ∧ K (.ptr r k g (off + n.toNat) 0)
      | .list es => (0 ≤ n ∧ n < es.length) ∧ (0 < sz P e ∧ (es.getD n.toNat .junk).cells.length = sz P e) ∧ K (.iptr (es.getD n.toNat .junk).cells)
      | _ => False
    | .array len e => match x with
      | .ptr r k g i off => (0 ≤ n ∧ n < len) ∧ 0 < sz P e ∧ K (.ptr r k g i (off + n.toNat * sz P e))
      | .iptr cs => (0 ≤ n ∧ n < len) ∧ 0 < sz P e ∧ n.toNat * sz P e ≤ cs.length ∧ K (.iptr (cs.drop (n.toNat * sz P e)))
      | _ => False
    | _ => False
  | _ => False
def byteAt (s : ByteArray) (n : Nat) : Int := if h : n < s.size then (s[n].toNat : Int) else 0
def vIndex (P : Program) (T : TypeId) (x i : AV) (K : AV → Prop) : Prop :=
  match i, x with
  | .int _ n, .agg cs => match td P T with
    | .array len e => (0 ≤ n ∧ n < len) ∧ (0 < sz P e ∧ (isAggT P e = false → sz P e = 1) ∧ n.toNat * sz P e + sz P e ≤ cs.length) ∧ K (ldv P e cs (n.toNat * sz P e))
    | _ => False
  | .int _ n, .str s => match td P T with
    | .str => (0 ≤ n ∧ n < s.size) ∧ K (.int .u8 (byteAt s n.toNat))
    | _ => False
  | _, _ => False
def bnd (lo : Option AV) (d : Nat) : Option Int := match lo with | none => some (d : Int) | some (.int _ n) => some n | _ => none
def vSlice (P : Program) (T : TypeId) (x : AV) (lo hi mx : Option AV) (K : AV → Prop) : Prop :=
  match td P T, mx with
  | .slice e, none => match x with
    | .sl kk r k g off len => match bnd lo 0, bnd hi len with
      | some l, some h => (0 ≤ l ∧ l ≤ h ∧ h ≤ len) ∧ (0 < kk ∧ kk = sz P e) ∧ K (.sl kk r k g (off + l.toNat) (h.toNat - l.toNat))
      | _, _ => False
    | .list es => match bnd lo 0, bnd hi es.length with
      | some l, some h => (0 ≤ l ∧ l ≤ h ∧ h ≤ es.length) ∧ (0 < sz P e ∧ (es.all fun x => x.cells.length == sz P e) = true) ∧ K (.list ((es.drop l.toNat).take (h.toNat - l.toNat)))
      | _, _ => False
    | _ => False
  | _, _ => False
def vFieldAddr (P : Program) (T f : Nat) (x : AV) (K : AV → Prop) : Prop :=
  match td P T with
  | .struct fs => f < fs.length ∧ 0 < sz P (fs.getD f (0, 0)).2 ∧ (match x with
      | .ptr r k g i off => K (.ptr r k g i (off + (fs.getD f (0, 0)).1))
      | .iptr cs => (fs.getD f (0, 0)).1 ≤ cs.length ∧ K (.iptr (cs.drop (fs.getD f (0, 0)).1))
      | _ => False)
  | _ => False
def vField (P : Program) (T f : Nat) (x : AV) (K : AV → Prop) : Prop :=
  match x with
  | .agg cs => match td P T with
    | .struct fs => (f < fs.length ∧ 0 < sz P (fs.getD f (0, 0)).2 ∧ (isAggT P (fs.getD f (0, 0)).2 = false → sz P (fs.getD f (0, 0)).2 = 1) ∧ (fs.getD f (0, 0)).1 + sz P (fs.getD f (0, 0)).2 ≤ cs.length) ∧
        K (ldv P (fs.getD f (0, 0)).2 cs (fs.getD f (0, 0)).1)
    | _ => False
  | _ => False
def isAggZ : AV → Bool | .agg _ => true | _ => false
def vBuild (P : Program) (T : Nat) (parts : List (Nat × AV)) (K : AV → Prop) : Prop :=
  match td P T with
  | .struct fs => (tyok P T && isAggZ (zav P T) && fs.all fun f => decide (0 < sz P f.2)) = true ∧ (parts.all fun p => p.2.solid && (p.2.cells.length == sz P (fs.getD p.1 (0, 0)).2) && decide (p.1 < fs.length) && decide ((fs.getD p.1 (0, 0)).1 + p.2.cells.length ≤ sz P T)) = true ∧
        K (parts.foldl (fun v p => stv v (fs.getD p.1 (0, 0)).1 p.2) (zav P T))
  | .array _ e => (tyok P T && isAggZ (zav P T) && decide (0 < sz P e)) = true ∧ (parts.all fun p => p.2.solid && (p.2.cells.length == sz P e) && decide (p.1 * sz P e + p.2.cells.length ≤ sz P T)) = true ∧
        K (parts.foldl (fun v p => stv v (p.1 * sz P e) p.2) (zav P T))
  | _ => False
def vLen (P : Program) (T : Nat) (x : AV) (K : AV → Prop) : Prop :=
  match td P T with
  | .slice _ => match x with
    | .sl _ _ _ _ _ n => K (.int .i64 n)
    | .list es => K (.int .i64 es.length)
    | .nil => K (.int .i64 0)
    | _ => False
  | _ => False
def vLenS (P : Program) (T : Nat) (x : AV) (S : St) (K : AV → Prop) : Prop :=
  match x with
  | .map r k g => match S r k with
    | some (.mp _ n _, g') => match td P T with
      | .map _ _ => g' = g ∧ K (.int .i64 n)
      | _ => False
    | _ => False
  | x => vLen P T x K
def vLookup (P : Program) (T : Nat) (ok : Bool) (x i : AV) (S : St) (K : AV → Prop) : Prop :=
  match x with
  | .map r k g => match S r k with
    | some (.mp sh _ f, g') => match td P T, mapKey sh i with
      | .map kt et, some ns => (g' = g ∧ kshape P kt = some sh ∧ tyok P et = true) ∧ K (bif ok then .tuple [(f ns).getD (zav P et), .bool (f ns).isSome] else (f ns).getD (zav P et))
      | _, _ => False
    | _ => False
  | _ => False
def vAssert (P : Program) (T : Nat) (ok : Bool) (x : AV) (K : AV → Prop) : Prop :=
  (match td P T with | .iface | .other => False | _ => True) ∧ (match x with
    | .iface t v => (t = T → bif ok then K (.tuple [v, .bool true]) else K v) ∧ (t ≠ T → ok = true ∧ tyok P T = true ∧ K (.tuple [zav P T, .bool false]))
    | .niface => ok = true ∧ tyok P T = true ∧ K (.tuple [zav P T, .bool false])
    | _ => False)
/-- Operations that leave the store alone. -/
def vq (P : Program) (o : Op) (e : Operand → AV) (S : St) (K : AV → Prop) : Prop :=
  match o with
  | .move x | .assign x => K (e x)
  | .pick c a b => match e c with | .bool v => K (bif v then e a else e b) | _ => False
  | .binOp op T x y _ => vBin P op T x y (e x) (e y) K
  | .unOp op _ x => vUn op (e x) K
  | .convert src dst x => match e x, td P dst, td P src with | .int _ n, .int k, .int _ => K (.int k (k.wrap n)) | _, _, _ => False
  | .makeInterface T x => (match td P T with | .iface | .other => False | _ => True) ∧ K (.iface T (e x))
  | .makeFunc fn first caps => K (.fn fn (first.toList.map e) (caps.toList.map e))
  | .build T parts => vBuild P T (parts.toList.map fun p => (p.1, e p.2)) K
  | .load T a => vLoad P T (e a) S K
  | .nilCheck x => (match e x with | .ptr .. | .iptr _ => True | .fn (.func _) _ _ => True | _ => False) ∧ K (e x)
  | .fieldAddr T x f => vFieldAddr P T f (e x) K
  | .field T x f => vField P T f (e x) K
  | .indexAddr T x i => vIdxAddr P T (e x) (e i) K
  | .index T x i => vIndex P T (e x) (e i) K
  | .slice T x lo hi mx => vSlice P T (e x) (lo.map e) (hi.map e) (mx.map e) K
  | .extract x i => match e x with | .tuple vs => i < vs.length ∧ K (vs.getD i .junk) | _ => False
  | .typeAssert x _ T ok => vAssert P T ok (e x) K
  | .lookup T x i ok => vLookup P T ok (e x) (e i) S K
  | .call { callee := .builtin .len, args := xs, argTypes := ts } => match xs.toList, ts.toList with
    | [x], [t] => vLenS P t (e x) S K
    | _, _ => False
  | .call { callee := .builtin .max, args := xs, argTypes := _ } => match xs.toList with
    | [x, y] => (match e x, e y with | .int k m, .int _ n => K (.int k (if m < n then n else m)) | _, _ => False)
    | _ => False
  | .call { callee := .builtin .min, args := xs, argTypes := _ } => match xs.toList with
    | [x, y] => (match e x, e y with | .int k m, .int _ n => K (.int k (if n < m then n else m)) | _, _ => False)
    | [x, y, z] => (match e x, e y, e z with | .int k m, .int _ n, .int _ q => K (.int k (if q < (if n < m then n else m) then q else (if n < m then n else m))) | _, _, _ => False)
    | _ => False
  | _ => False
/-- A quiet operation yields a value that fits, and leaves the world alone. -/
def QOp (P : Program) (o : Oper) (e : Operand → AV) (S : St) (K : AV → Prop) : Prop :=
  ∀ (G : Ghost) (ρ : Operand → Value) (w : World), Rel G S w → (∀ x, VR G (e x) (ρ x)) →
    ∃ v av, (execOp ρ o).run P w = .ok (.value v) w ∧ K av ∧ VR G av v
end Go.Gg
namespace Go.Gg
section
variable {P : Program} {T : TypeId}
theorem td_bool (h : td P T = .bool) : P.underlying T = some .bool := by unfold td at h; split at h <;> first | assumption | cases h
theorem td_int {k : IntKind} (h : td P T = .int k) : P.underlying T = some (.int k) := by unfold td at h; split at h <;> first | (cases h; assumption) | cases h
theorem td_slice {e : TypeId} (h : td P T = .slice e) : P.underlying T = some (.slice e) := by unfold td at h; split at h <;> first | (cases h; assumption) | cases h
theorem td_array {n : Nat} {e : TypeId} (h : td P T = .array n e) : P.underlying T = some (.array n e) := by unfold td at h; split at h <;> first | (cases h; assumption) | cases h
theorem td_map {k e : TypeId} (h : td P T = .map k e) : P.underlying T = some (.map k e) := by unfold td at h; split at h <;> first | (cases h; assumption) | cases h
theorem td_struct {fs : List (Nat × TypeId)} (h : td P T = .struct fs) : ∃ fields : Array Field, P.underlying T = some (.struct fields) ∧ fs = fields.toList.map fun f => (f.offset, f.type) := by
  unfold td at h; split at h <;> first | (cases h; exact ⟨_, by assumption, rfl⟩) | cases h
theorem td_iface (h : td P T = .iface) : ∃ ms, P.underlying T = some (.interface ms) := by unfold td at h; split at h <;> first | exact ⟨_, by assumption⟩ | cases h
theorem td_concrete (h : (match td P T with | .iface | .other => False | _ => True)) : ∃ d, P.underlying T = some d ∧ ∀ ms, d ≠ .interface ms := by
  unfold td at h
  cases hu : P.underlying T with
  | none => rw [hu] at h; exact h.elim
  | some d =>
    refine ⟨d, rfl, fun ms e => ?_⟩
    subst e
    rw [hu] at h
    exact h
theorem sz_pos (h : 0 < sz P T) : ∃ i d, P.info? T = some i ∧ P.underlying T = some d ∧ i.size = sz P T := by
  unfold sz at h ⊢
  cases hi : P.info? T with
  | none => simp [hi] at h
  | some i =>
    cases hu : P.underlying T with
    | none => simp [hi, hu] at h
    | some d => exact ⟨i, d, rfl, rfl, rfl⟩
theorem run_sizeOf {w : World} (h : 0 < sz P T) : (sizeOf T).run P w = .ok (sz P T) w := by
  obtain ⟨i, d, hi, _, hs⟩ := sz_pos h
  simp [sizeOf, typeInfo, hi, hs]
theorem run_isAgg {w : World} (h : isAggT P T = true) : (isAgg T).run P w = .ok true w := by
  unfold isAggT at h
  split at h
  · rename_i hd
    obtain ⟨fs, hf, _⟩ := td_struct hd
    simp [isAgg, run_underlying hf]
  · rename_i hd
    simp [isAgg, run_underlying (td_array hd)]
  · cases h
theorem run_notAgg {w : World} {d : TypeDesc} (hd : P.underlying T = some d) (h : isAggT P T = false) : (isAgg T).run P w = .ok false w := by
  unfold isAggT td at h
  rw [hd] at h
  simp only [isAgg, Sem.run_bind, run_underlying hd, Result.andThen_ok]
  cases d <;> first | rfl | (simp at h)
end
section
variable {P : Program} {w : World} {G : Ghost}
/-- A value read from cells that fit. -/
theorem run_loadVar {T : TypeId} {c x : Nat} {cs : List AV} (hsz : 0 < sz P T) (hone : isAggT P T = false → sz P T = 1) {off : Nat} (hl : off + sz P T ≤ cs.length)
    (hc : ∀ j (h : j < cs.length), ∃ u, w.cell? ⟨c, x + j, none⟩ = some u ∧ VR G cs[j] u) :
    ∃ v, (loadVar T ⟨c, x + off, none⟩).run P w = .ok v w ∧ VR G (ldv P T cs off) v := by
  have hadd : ∀ j, (⟨c, x + off, none⟩ : Addr).add j = ⟨c, x + (off + j), none⟩ := fun j => by unfold Addr.add; split <;> simp_all [Nat.add_assoc]
  cases ha : isAggT P T with
  | true =>
    obtain ⟨f, hf⟩ : ∃ f : Nat → Value, ∀ j (h : j < sz P T), w.cell? ⟨c, x + (off + j), none⟩ = some (f j) ∧ VR G (cs[off + j]'(by omega)) (f j) := by
      refine ⟨fun j => if h : j < sz P T then (hc (off + j) (by omega)).choose else undef, fun j h => ?_⟩
      simp only [h, dite_true]
      exact (hc (off + j) (by omega)).choose_spec
    have hr := run_loadCells (P := P) w ⟨c, x + off, none⟩ (sz P T) f (fun j hj => by rw [hadd]; exact (hf j hj).1)
    refine ⟨.agg ((List.range (sz P T)).map f).toArray, ?_, ?_⟩
    · simp only [loadVar, Sem.run_bind, run_isAgg ha, Result.andThen_ok, if_true, run_sizeOf hsz, hr, Sem.run_pure]
    · simp only [ldv, ha, cond_true]
      refine .agg _ _ (by simp; omega) (fun i h h' => ?_)
      simp only [List.length_take, List.length_drop] at h
      simp only [List.getElem_take, List.getElem_drop, List.getElem_toArray, List.getElem_map, List.getElem_range]
      exact (hf i (by omega)).2
  | false =>
    obtain ⟨_, d, _, hd, _⟩ := sz_pos hsz
    have h1 := hone ha
    obtain ⟨u, hu1, hu2⟩ := hc off (by omega)
    refine ⟨u, ?_, ?_⟩
    · simp only [loadVar, Sem.run_bind, run_notAgg hd ha, Result.andThen_ok, Bool.false_eq_true, if_false, run_load, hu1]
    · simp only [ldv, ha, cond_false]
      rw [List.getD_eq_getElem?_getD, List.getElem?_eq_getElem (by omega)]
      exact hu2
end
end Go.Gg
namespace Go.Gg
section
variable {P : Program} {G : Ghost} {S : St} {w : World}
theorem q_load {T : TypeId} {a : AV} {x : Value} {K : AV → Prop} (hr : Rel G S w) (hx : VR G a x) (h : vLoad P T a S K) :
    ∃ v av, (Instr.loadAt T x).run P w = .ok v w ∧ K av ∧ VR G av v := by
  unfold vLoad at h
  cases hx with
  | ptr r k g i off L' hL' =>
    simp only at h
    split at h
    · rename_i kk es g' hS
      obtain ⟨⟨rfl, hi, hsz, hone, hoff⟩, hk⟩ := h
      obtain ⟨L, hL, hobj, _⟩ := hr.obj _ _ _ _ hS
      obtain rfl : L = L' := by rw [hL] at hL'; exact Option.some.inj hL'
      have hlen : es[i].cells.length = kk := hobj.2.2.2.2.1 i hi
      have hk1 : L.k = kk := hobj.2.1
      obtain ⟨v, hv1, hv2⟩ := run_loadVar (P := P) (w := w) (G := G) (T := T) (c := L.block) (x := i * L.k) (cs := es[i].cells) hsz hone (off := off) (by omega)
        (fun j hj => by
          obtain ⟨u, hu1, hu2⟩ := hobj.cell hi (j := j) (by omega)
          exact ⟨u, hu1, hu2⟩)
      refine ⟨v, _, ?_, hk, ?_⟩
      · simp only [Instr.loadAt, Instr.sureAddr, Sem.run_bind, Sem.run_pure, Result.andThen_ok]
        exact hv1
      · rw [List.getD_eq_getElem?_getD, List.getElem?_eq_getElem hi]
        exact hv2
    · exact h.elim
  | iptr cs c x u hu1 hu2 =>
    obtain ⟨⟨hsz, hone, hoff⟩, hk⟩ := h
    obtain ⟨v, hv1, hv2⟩ := run_loadVar (P := P) (w := w) (G := G) (T := T) (c := c) (x := x) (cs := cs) hsz hone (off := 0) (by omega)
        (fun j hj => ⟨u j, hr.imm _ _ _ (hu1 j hj), hu2 j hj⟩)
    refine ⟨v, _, ?_, hk, hv2⟩
    simp only [Instr.loadAt, Instr.sureAddr, Sem.run_bind, Sem.run_pure, Result.andThen_ok]
    exact hv1
  | _ => exact h.elim
theorem run_fieldPlace {a : Addr} {f : Field} (h : 0 < sz P f.type) : (fieldPlace a f).run P w = .ok (a.add f.offset) w := by
  have h0 : ¬ sz P f.type = 0 := by omega
  simp [fieldPlace, run_sizeOf h, h0]
theorem fs_getD {fields : Array Field} {f : Nat} (h : f < (fields.toList.map fun f => (f.offset, f.type)).length) :
    ∃ fd, fields[f]? = some fd ∧ (fields.toList.map fun f => (f.offset, f.type)).getD f (0, 0) = (fd.offset, fd.type) := by
  simp only [List.length_map, Array.length_toList] at h
  refine ⟨fields[f], by simp [h], ?_⟩
  rw [List.getD_eq_getElem?_getD]
  simp [h]
theorem addr_add (c x n : Nat) : (⟨c, x, none⟩ : Addr).add n = ⟨c, x + n, none⟩ := by unfold Addr.add; split <;> simp_all
/-- A pointer into cells that nobody writes, moved on. -/
theorem VR.iptr_drop {cs : List AV} {c x n : Nat} {u : Nat → Value} (h1 : ∀ j, j < cs.length → G.imm c (x + j) = some (u j)) (h2 : ∀ j (h : j < cs.length), VR G cs[j] (u j)) :
    VR G (.iptr (cs.drop n)) (.pointer (some ⟨c, x + n, none⟩)) := by
  refine .iptr _ c (x + n) (fun j => u (n + j)) (fun j hj => ?_) (fun j hj => ?_)
  · simp only [List.length_drop] at hj
    rw [Nat.add_assoc]; exact h1 _ (by omega)
  · simp only [List.length_drop] at hj
    rw [List.getElem_drop]
    exact h2 _ (by omega)
theorem q_fieldAddr {T f : Nat} {a : AV} {x : Value} {K : AV → Prop} (hx : VR G a x) (h : vFieldAddr P T f a K) :
    ∃ v av, (Instr.fieldAt T x f).run P w = .ok v w ∧ K av ∧ VR G av v := by
  unfold vFieldAddr at h
  split at h
  · rename_i fs hd
    obtain ⟨fields, hu, rfl⟩ := td_struct hd
    obtain ⟨hf, hsz, h⟩ := h
    obtain ⟨fd, hfd, hg⟩ := fs_getD hf
    rw [hg] at h hsz
    simp only at h hsz
    have key : ∀ ad : Addr, (Instr.fieldAt T (.pointer (some ad)) f).run P w = .ok (.pointer (some (ad.add fd.offset))) w := by
      intro ad
      simp only [Instr.fieldAt, Sem.run_bind, run_underlying hu, Result.andThen_ok, hfd, Instr.sureAddr, Sem.run_pure, run_fieldPlace hsz]
    cases hx with
    | ptr r k g i off L hL => exact ⟨_, _, key _, h, by rw [addr_add, Nat.add_assoc]; exact .ptr _ _ _ _ _ L hL⟩
    | iptr cs c x u h1 h2 => exact ⟨_, _, key _, h.2, by rw [addr_add]; exact VR.iptr_drop h1 h2⟩
    | _ => exact h.elim
  · exact h.elim
theorem q_idxAddr {T : Nat} {a i : AV} {x y : Value} {K : AV → Prop} (hx : VR G a x) (hy : VR G i y) (h : vIdxAddr P T a i K) :
    ∃ v av, (Instr.indexAt T x y).run P w = .ok v w ∧ K av ∧ VR G av v := by
  unfold vIdxAddr at h
  cases hy with
  | int ki n =>
    simp only at h
    split at h
    · rename_i e hd
      have hu := td_slice hd
      cases hx with
      | sl kk r k g off len a L hL hk hc hm ha =>
        obtain ⟨⟨h0, h1⟩, ⟨hk0, hkk⟩, hK⟩ := h
        have ha' := ha (by omega)
        subst ha'
        refine ⟨.pointer (some ((⟨L.block, off * L.k, none⟩ : Addr).add (n.toNat * sz P e))), _, ?_, hK, ?_⟩
        · simp [Instr.indexAt, asIntOf, run_underlying hu, h0, h1, run_sizeOf (P := P) (T := e) (by omega)]
        · rw [addr_add, ← hkk, ← hk, ← Nat.add_mul]
          exact .ptr _ _ _ _ 0 L hL
      | list es a len cap c x k u hn hcap hm ha hk hi hv =>
        obtain ⟨⟨h0, h1⟩, ⟨hs0, hkk⟩, hK⟩ := h
        have ha' := ha (by omega)
        subst ha'
        have hlt : n.toNat < es.length := by omega
        have hge : es.getD n.toNat .junk = es[n.toNat] := by rw [List.getD_eq_getElem?_getD, List.getElem?_eq_getElem hlt]; rfl
        rw [hge] at hkk hK
        have hkk' : k = sz P e := (hk _ hlt).symm.trans hkk
        refine ⟨.pointer (some ((⟨c, x, none⟩ : Addr).add (n.toNat * sz P e))), _, ?_, hK, ?_⟩
        · have h1' : n < (len : Int) := by omega
          simp [Instr.indexAt, asIntOf, run_underlying hu, h0, h1', run_sizeOf (P := P) (T := e) hs0]
        · rw [addr_add, ← hkk']
          refine .iptr _ c _ (u n.toNat) (fun j hj => ?_) (fun j hj => hv _ hlt j hj)
          rw [hk _ hlt] at hj
          rw [Nat.add_assoc]
          exact hi _ _ (by omega) hj
      | _ => exact h.elim
    · rename_i len e hd
      have hu := td_array hd
      cases hx with
      | ptr r k g i off L hL =>
        obtain ⟨⟨h0, h1⟩, hsz, hK⟩ := h
        refine ⟨.pointer (some ((⟨L.block, i * L.k + off, none⟩ : Addr).add (n.toNat * sz P e))), _, ?_, hK, ?_⟩
        · simp [Instr.indexAt, asIntOf, run_underlying hu, h0, h1, Instr.sureAddr, run_sizeOf hsz]
        · rw [addr_add, Nat.add_assoc]
          exact .ptr _ _ _ _ _ L hL
      | iptr cs c x u q1 q2 =>
        obtain ⟨⟨h0, h1⟩, hsz, hle, hK⟩ := h
        refine ⟨.pointer (some ((⟨c, x, none⟩ : Addr).add (n.toNat * sz P e))), _, ?_, hK, ?_⟩
        · simp [Instr.indexAt, asIntOf, run_underlying hu, h0, h1, Instr.sureAddr, run_sizeOf hsz]
        · rw [addr_add]
          exact VR.iptr_drop q1 q2
      | _ => exact h.elim
    · exact h.elim
  | _ => exact h.elim
end
end Go.Gg
namespace Go.Gg
section
variable {P : Program}
theorem intK_some {T : TypeId} {k : IntKind} (h : intK P T = some k) : P.underlying T = some (.int k) := by
  unfold intK at h
  split at h
  · rename_i k' hu; cases h; exact hu
  · cases h
theorem intKs_at : ∀ {l : List TypeId} {ks : List IntKind}, intKs P l = some ks → ks.length = l.length ∧ ∀ (i : Nat) (T : TypeId), l[i]? = some T → ∃ k, ks[i]? = some k ∧ P.underlying T = some (.int k)
  | [], ks, h => by
    simp only [intKs, Option.some.injEq] at h
    subst h
    exact ⟨rfl, fun i T hi => by simp at hi⟩
  | T :: l, ks, h => by
    unfold intKs at h
    split at h
    · rename_i k ks' h1 h2
      cases h
      obtain ⟨a, b⟩ := intKs_at h2
      refine ⟨by simp [a], fun i T' hi => ?_⟩
      cases i with
      | zero => simp at hi; subst hi; exact ⟨k, rfl, intK_some h1⟩
      | succ i => simpa using b i T' (by simpa using hi)
    · cases h
theorem run_part_int {e : TypeId} {k : IntKind} (hu : P.underlying e = some (.int k)) {xs : Array Value} {off : Nat} {v : Value} (hx : xs[off]? = some v) (w : World) : (part e xs off).run P w = .ok v w := by
  simp [part, isAgg, run_underlying hu, hx]
theorem run_check_int {e : TypeId} {k : IntKind} (hu : P.underlying e = some (.int k)) (em : Bool) (d : Nat) (n : Int) (w : World) : (Instr.checkKey em (d + 1) e (.int k n)).run P w = .ok () w := by
  simp [Instr.checkKey, run_underlying hu]
/-- The cells of a key of many integers. -/
theorem keyCells {ks : List IntKind} {ns : List Int} {i : Nat} {k : IntKind} (hl : ks.length = ns.length) (h : ks[i]? = some k) :
    (((ks.zip ns).map fun p => Value.int p.1 p.2).toArray)[i]? = some (.int k (ns.getD i 0)) := by
  obtain ⟨hi, rfl⟩ := List.getElem?_eq_some_iff.1 h
  have hn : i < ns.length := by omega
  have hz : i < (ks.zip ns).length := by simp; omega
  simp [List.getElem?_eq_getElem hz, List.getElem_zip, List.getD_eq_getElem?_getD, hn]
theorem run_check_struct {T : TypeId} {fs : Array Field} (hu : P.underlying T = some (.struct fs)) {xs : Array Value} (em : Bool) (d : Nat) (w : World)
    (h : ∀ f ∈ fs.toList, f.name ≠ "_" ∧ ∃ k n, P.underlying f.type = some (.int k) ∧ xs[f.offset]? = some (.int k n)) : (Instr.checkKey em (d + 1 + 1) T (.agg xs)).run P w = .ok () w := by
  rw [Instr.checkKey]
  simp only [Sem.run_bind, run_underlying hu, Result.andThen_ok]
  rw [← Array.forIn_toList]
  generalize fs.toList = L at h
  induction L with
  | nil => simp
  | cons f L ih =>
    obtain ⟨hn, k, n, h1, h2⟩ := h f (by simp)
    simp only [List.forIn_cons, Sem.run_bind, hn, ne_eq, not_false_eq_true, if_true, Result.andThen_ok, run_part_int h1 h2, run_check_int h1, Sem.run_pure]
    exact ih (fun y hy => h y (by simp [hy]))
theorem run_check_array {T e : TypeId} {n : Nat} {k : IntKind} (hu : P.underlying T = some (.array n e)) (he : P.underlying e = some (.int k)) (hs : sz P e = 1) {xs : Array Value} (em : Bool) (d : Nat) (w : World)
    (h : ∀ i, i < n → ∃ m, xs[i]? = some (.int k m)) : (Instr.checkKey em (d + 1 + 1) T (.agg xs)).run P w = .ok () w := by
  have hsz : ∀ w : World, (sizeOf e).run P w = .ok 1 w := fun w => by rw [← hs]; exact run_sizeOf (by omega)
  rw [Instr.checkKey]
  simp only [Sem.run_bind, run_underlying hu, Result.andThen_ok]
  simp only [Std.Legacy.Range.forIn_eq_forIn_range', Std.Legacy.Range.size, Nat.sub_zero, Nat.add_one_sub_one, Nat.div_one]
  have each : ∀ i ∈ List.range' 0 n, ∃ m, xs[i]? = some (.int k m) := fun i hi => h i (by simpa using hi)
  generalize List.range' 0 n = is at each
  induction is with
  | nil => simp
  | cons j is ih =>
    obtain ⟨m, hm⟩ := each j (by simp)
    simp only [List.forIn_cons, Sem.run_bind, hsz, Result.andThen_ok, Nat.mul_one, run_part_int he hm, run_check_int he, Sem.run_pure]
    exact ih (fun y hy => each y (by simp [hy]))
def ic (x : Option Value) : Int := match x with | some (.int _ n) => n | _ => 0
theorem run_eq_fields {xs ys : Array Value} (d : Nat) (w : World) : ∀ L : List Field, (∀ f ∈ L, f.name ≠ "_" ∧ ∃ k a b, P.underlying f.type = some (.int k) ∧ xs[f.offset]? = some (.int k a) ∧ ys[f.offset]? = some (.int k b)) →
    (Op.eqFields (d + 1) xs ys L).run P w = .ok (L.all fun f => ic xs[f.offset]? == ic ys[f.offset]?) w
  | [], _ => by simp [Op.eqFields]
  | f :: L, h => by
    obtain ⟨hn, k, a, b, h1, h2, h3⟩ := h f (by simp)
    have ih := run_eq_fields d w L (fun y hy => h y (by simp [hy]))
    simp only [Op.eqFields, hn, ne_eq, not_false_eq_true, if_true, Sem.run_bind, run_part_int h1 h2, run_part_int h1 h3, run_equalIn_int w d _ _ _ _ _ h1, Result.andThen_ok]
    rw [List.all_cons, h2, h3, show ic (some (Value.int k a)) = a from rfl, show ic (some (Value.int k b)) = b from rfl]
    cases a == b
    · simp
    · simpa using ih
theorem run_eq_items {e : TypeId} {k : IntKind} (he : P.underlying e = some (.int k)) {xs ys : Array Value} (d : Nat) (w : World) : ∀ is : List Nat, (∀ i ∈ is, ∃ a b, xs[i]? = some (.int k a) ∧ ys[i]? = some (.int k b)) →
    (Op.eqItems (d + 1) e 1 xs ys is).run P w = .ok (is.all fun i => ic xs[i]? == ic ys[i]?) w
  | [], _ => by simp [Op.eqItems]
  | i :: is, h => by
    obtain ⟨a, b, h2, h3⟩ := h i (by simp)
    have ih := run_eq_items he d w is (fun y hy => h y (by simp [hy]))
    simp only [Op.eqItems, Nat.mul_one, Sem.run_bind, run_part_int he h2, run_part_int he h3, run_equalIn_int w d _ _ _ _ _ he, Result.andThen_ok]
    rw [List.all_cons, h2, h3, show ic (some (Value.int k a)) = a from rfl, show ic (some (Value.int k b)) = b from rfl]
    cases a == b
    · simp
    · simpa using ih
theorem all_ic {ks : List IntKind} {ns ns' : List Int} (h : ks.length = ns.length) (h' : ks.length = ns'.length) :
    ((List.range ks.length).all fun i => ic (((ks.zip ns).map fun p => Value.int p.1 p.2).toArray)[i]? == ic (((ks.zip ns').map fun p => Value.int p.1 p.2).toArray)[i]?) = decide (ns = ns') := by
  rw [Bool.eq_iff_iff, List.all_eq_true, decide_eq_true_eq]
  have hc : ∀ (l : List Int), ks.length = l.length → ∀ i, i < ks.length → ic (((ks.zip l).map fun p => Value.int p.1 p.2).toArray)[i]? = l.getD i 0 := fun l hl i hi => by
    rw [keyCells hl (List.getElem?_eq_getElem hi)]; rfl
  constructor
  · intro hh
    refine List.ext_getElem (by omega) fun i h1 h2 => ?_
    have := hh i (by simp; omega)
    rw [hc ns h i (by omega), hc ns' h' i (by omega)] at this
    simpa [List.getD_eq_getElem?_getD, h1, h2] using this
  · intro hh i _
    subst hh
    simp
theorem mkKey_many {ks : List IntKind} {ns : List Int} {v : Value} (h : mkKey (.many ks) ns = some v) : ks.length = ns.length ∧ v = .agg ((ks.zip ns).map fun p => Value.int p.1 p.2).toArray := by
  unfold mkKey at h
  simp only at h
  split at h
  · rename_i hl; exact ⟨hl, (Option.some.inj h).symm⟩
  · cases h
theorem mkKey_one {k : IntKind} {ns : List Int} {v : Value} (h : mkKey (.one k) ns = some v) : ∃ n, ns = [n] ∧ v = .int k n := by
  unfold mkKey at h
  split at h
  · rename_i k' n he; cases he; exact ⟨n, rfl, (Option.some.inj h).symm⟩
  · rename_i he; cases he
  · cases h
theorem mkKey_inj {sh : KShape} {ns ns' : List Int} {v : Value} (h : mkKey sh ns = some v) (h' : mkKey sh ns' = some v) : ns = ns' := by
  cases sh with
  | one k =>
    obtain ⟨n, rfl, rfl⟩ := mkKey_one h
    obtain ⟨n', rfl, e⟩ := mkKey_one h'
    cases e
    rfl
  | many ks =>
    obtain ⟨a, rfl⟩ := mkKey_many h
    obtain ⟨b, e⟩ := mkKey_many h'
    have hd : decide (ns = ns') = true := by
      rw [← all_ic a b, ← Value.agg.inj e]
      simp
    simpa using hd
theorem kshape_struct {T : TypeId} {ks : List IntKind} (h : kshape P T = some (.many ks)) :
    (∃ fs : Array Field, P.underlying T = some (.struct fs) ∧ P.stoodInHeld T = false ∧ fs.toList.map (·.offset) = List.range ks.length ∧ ∀ f ∈ fs.toList, f.name ≠ "_" ∧ ∃ k, ks[f.offset]? = some k ∧ P.underlying f.type = some (.int k)) ∨
    ∃ n e k, P.underlying T = some (.array n e) ∧ P.underlying e = some (.int k) ∧ sz P e = 1 ∧ ks = List.replicate n k := by
  unfold kshape at h
  split at h
  · cases h
  · rename_i fs hu
    split at h
    · rename_i hc
      simp only [Bool.and_eq_true, Bool.not_eq_true', beq_iff_eq, List.all_eq_true, bne_iff_ne, ne_eq] at hc
      obtain ⟨⟨h1, h2⟩, h3⟩ := hc
      cases hk : intKs P (fs.toList.map (·.type)) with
      | none => rw [hk] at h; cases h
      | some ks' =>
        rw [hk] at h
        cases h
        obtain ⟨a, b⟩ := intKs_at hk
        simp only [List.length_map] at a
        refine .inl ⟨fs, hu, h1, by rw [h2, a], fun f hf => ⟨h3 f hf, ?_⟩⟩
        obtain ⟨i, hi, rfl⟩ := List.mem_iff_getElem.1 hf
        have ho : (fs.toList[i]).offset = i := by
          have := congrArg (fun l => l[i]?) h2
          simp only [List.getElem?_map, List.getElem?_eq_getElem hi, Option.map_some, List.getElem?_range hi] at this
          exact Option.some.inj this
        rw [ho]
        exact b i _ (by simp only [List.getElem?_map, List.getElem?_eq_getElem hi, Option.map_some])
    · cases h
  · rename_i n e hu
    split at h
    · rename_i hs
      cases hk : intK P e with
      | none => rw [hk] at h; cases h
      | some k =>
        rw [hk] at h
        cases h
        exact .inr ⟨n, e, k, hu, intK_some hk, hs, rfl⟩
    · cases h
  · cases h
theorem kshape_one {T : TypeId} {k : IntKind} (h : kshape P T = some (.one k)) : P.underlying T = some (.int k) := by
  unfold kshape at h
  split at h
  · rename_i k' hu; cases h; exact hu
  · split at h
    · cases hk : intKs P (List.map _ _) with
      | none => rw [hk] at h; cases h
      | some ks' => rw [hk] at h; cases h
    · cases h
  · split at h
    · cases hk : intK P _ with
      | none => rw [hk] at h; cases h
      | some k => rw [hk] at h; cases h
    · cases h
  · cases h
variable {T : TypeId} {sh : KShape}
theorem key_check {ns : List Int} {v : Value} (hk : kshape P T = some sh) (hv : mkKey sh ns = some v) (w : World) (em : Bool) : (Instr.checkKey em 10000 T v).run P w = .ok () w := by
  cases sh with
  | one k =>
    obtain ⟨n, rfl, rfl⟩ := mkKey_one hv
    exact run_check_int (kshape_one hk) em 9999 n w
  | many ks =>
    obtain ⟨hl, rfl⟩ := mkKey_many hv
    rcases kshape_struct hk with ⟨fs, hu, _, _, h⟩ | ⟨n, e, k, hu, he, hs, rfl⟩
    · exact run_check_struct hu em 9998 w fun f hf => let ⟨a, k, b, c⟩ := h f hf; ⟨a, k, _, c, keyCells hl b⟩
    · exact run_check_array hu he hs em 9998 w fun i hi => ⟨_, keyCells hl (by simp [hi])⟩
theorem key_eqIn {ks : List IntKind} {ns ns' : List Int} {v v' : Value} (hk : kshape P T = some (.many ks)) (hv : mkKey (.many ks) ns = some v) (hv' : mkKey (.many ks) ns' = some v') (w : World) : (Op.equal T v v').run P w = .ok (decide (ns = ns')) w := by
  obtain ⟨hl, rfl⟩ := mkKey_many hv
  obtain ⟨hl', rfl⟩ := mkKey_many hv'
  rw [← all_ic hl hl']
  rcases kshape_struct hk with ⟨fs, hu, hst, hof, h⟩ | ⟨n, e, k, hu, he, hs, rfl⟩
  · have hf : P.fieldsOf T = fs := by simp [Program.fieldsOf, hu]
    rw [show Op.equal T _ _ = Op.equalIn (9998 + 1 + 1) T _ _ from rfl, run_equalIn_struct w (9998 + 1) T _ _ (by rw [hf]; exact hu) hst, hf, run_eq_fields 9998 w]
    · rw [← hof, List.all_map]
      rfl
    · exact fun f hf' => let ⟨a, k, b, c⟩ := h f hf'; ⟨a, k, _, _, c, keyCells hl b, keyCells hl' b⟩
  · obtain ⟨i, d, hi, _, hsz⟩ := sz_pos (P := P) (T := e) (by omega)
    have hc : P.cellsOf e = 1 := by simp [Program.cellsOf, hi, hsz, hs]
    rw [show Op.equal T _ _ = Op.equalIn (9998 + 1 + 1) T _ _ from rfl, run_equalIn_array w (9998 + 1) _ _ hu hi, hc, run_eq_items he 9998 w]
    · rw [List.length_replicate]
    · exact fun j hj => ⟨_, _, keyCells hl (by simp at hj; simp [hj]), keyCells hl' (by simp at hj; simp [hj])⟩
theorem key_find {ns : List Int} {v : Value} (hk : kshape P T = some sh) (hv : mkKey sh ns = some v) (w : World) (es : List MapEntry) (hes : ∀ e ∈ es, ∃ ns', mkKey sh ns' = some e.key) :
    ((Instr.findKey T v es).run P w = .ok none w ∧ ∀ e ∈ es, e.key ≠ v) ∨ ∃ j e, (Instr.findKey T v es).run P w = .ok (some (j, e.val)) w ∧ es[j]? = some e ∧ e.key = v := by
  cases sh with
  | one k =>
    have hu := kshape_one hk
    have hI : ∀ (ns : List Int) (v : Value), mkKey (.one k) ns = some v → MapKept.IsKey (.int k) v := fun ns v h => by
      obtain ⟨n, rfl, rfl⟩ := mkKey_one h
      exact rfl
    rcases MapKept.findNow_spec (hI _ _ hv) es 0 (fun e he => let ⟨ns', h⟩ := hes e he; hI _ _ h) with ⟨h1, h2⟩ | ⟨j, e, h1, h2, h3⟩
    · exact .inl ⟨MapKept.run_findKey hu h1, h2⟩
    · exact .inr ⟨j, e, by rw [MapKept.run_findKey hu h1, Nat.zero_add], h2, h3⟩
  | many ks =>
    rw [run_findKey_eq w (by rcases kshape_struct hk with ⟨fs, hu, _⟩ | ⟨n, e, k, hu, _⟩ <;> rw [hu])]
    have key : ∀ (es : List MapEntry) (i : Nat), (∀ e ∈ es, ∃ ns', mkKey (.many ks) ns' = some e.key) →
        ((Instr.findAsking T v es i).run P w = .ok none w ∧ ∀ e ∈ es, e.key ≠ v) ∨ ∃ j e, (Instr.findAsking T v es i).run P w = .ok (some (i + j, e.val)) w ∧ es[j]? = some e ∧ e.key = v := by
      intro es
      induction es with
      | nil => exact fun i _ => .inl ⟨by simp [Instr.findAsking], by simp⟩
      | cons e es ih =>
        intro i hes
        obtain ⟨ns', hn⟩ := hes e (by simp)
        have hr := key_eqIn hk hv hn w
        by_cases he : ns = ns'
        · subst he
          rw [decide_eq_true rfl] at hr
          exact .inr ⟨0, e, by simp [Instr.findAsking, hr], rfl, Option.some.inj (hn.symm.trans hv)⟩
        · rw [decide_eq_false he] at hr
          have hne : e.key ≠ v := fun h => he (mkKey_inj hv (by rw [← h]; exact hn))
          rcases ih (i + 1) (fun y hy => hes y (by simp [hy])) with ⟨h1, h2⟩ | ⟨j, e', h1, h2, h3⟩
          · exact .inl ⟨by simp [Instr.findAsking, hr, h1], fun y hy => by
              rcases List.mem_cons.1 hy with rfl | hy
              · exact hne
              · exact h2 y hy⟩
          · exact .inr ⟨j + 1, e', by simp [Instr.findAsking, hr, h1, Nat.add_assoc, Nat.add_comm 1 j], by simpa using h2, h3⟩
    rcases key es 0 hes with h | ⟨j, e, h1, h2, h3⟩
    · exact .inl h
    · exact .inr ⟨j, e, by simpa using h1, h2, h3⟩
theorem key_stays {ns : List Int} {v : Value} (hv : mkKey sh ns = some v) (w : World) : (Instr.keyThatStays v v).run P w = .ok v w := by
  have hs : Instr.sameBits 10000 v v = true := by
    cases sh with
    | one k =>
      obtain ⟨n, rfl, rfl⟩ := mkKey_one hv
      simp [Instr.sameBits]
    | many ks =>
      obtain ⟨hl, rfl⟩ := mkKey_many hv
      show Instr.sameBits (9999 + 1) _ _ = true
      simp only [Instr.sameBits, beq_self_eq_true, Bool.true_and, List.all_eq_true]
      intro p hp
      obtain ⟨i, hi, e⟩ := List.getElem_of_mem hp
      rw [List.getElem_zip] at e
      rw [← e]
      simp [Instr.sameBits]
  simp [Instr.keyThatStays, hs]
theorem eqGuard_ints {op : BinOp} {x y : Operand} {ks : List IntKind} {ns ns' : List Int} {v v' : Value} {w : World} (hk : kshape P T = some (.many ks)) (hv : mkKey (.many ks) ns = some v) (hv' : mkKey (.many ks) ns' = some v') : (eqGuard op T x y v v').run P w = .ok () w := by
  obtain ⟨_, rfl⟩ := mkKey_many hv
  obtain ⟨_, rfl⟩ := mkKey_many hv'
  have hi : ∀ (d : Nat) (e : TypeId) (k : IntKind), P.underlying e = some (.int k) → P.eqGuardType (d + 1) e = false := fun d e k he => by simp [Program.eqGuardType, he]
  have hg : P.eqGuardType P.depth T = false := by
    rw [show P.depth = 2 * (P.types.size + Made.depth) + 1 + 1 from rfl]
    rcases kshape_struct hk with ⟨fs, hu, _, _, h⟩ | ⟨n, e, k, hu, he, _, _⟩
    · rw [Program.eqGuardType, hu]
      simp only [← Array.any_toList, List.any_eq_false]
      intro f hf
      obtain ⟨_, k, _, hk'⟩ := h f hf
      simp [hi _ _ _ hk']
    · rw [Program.eqGuardType, hu]
      exact hi _ _ _ he
  unfold eqGuard
  cases op <;> simp [hg]
theorem keyL_mk {G : Ghost} : ∀ {ks : List IntKind} {cs : List AV} {xs : List Value} {ns : List Int}, keyL ks cs = some ns → xs.length = cs.length → (∀ i (h : i < cs.length) (h' : i < xs.length), VR G cs[i] xs[i]) → ks.length = ns.length ∧ xs = (ks.zip ns).map fun p => Value.int p.1 p.2
  | [], [], xs, ns, h, hl, _ => by
    simp only [keyL, Option.some.injEq] at h
    subst h
    exact ⟨rfl, List.eq_nil_of_length_eq_zero (by simpa using hl)⟩
  | k :: ks, c :: cs, xs, ns, h, hl, hv => by
    cases xs with
    | nil => simp at hl
    | cons x xs =>
      cases c with
      | int k' n =>
        simp only [keyL] at h
        split at h
        · rename_i hkk
          subst hkk
          cases hm : keyL ks cs with
          | none => rw [hm] at h; cases h
          | some ns' =>
            rw [hm] at h
            cases h
            obtain ⟨a, b⟩ := keyL_mk (xs := xs) hm (by simpa using hl) (fun i h h' => hv (i + 1) (by simp; omega) (by simp; omega))
            have h0 := hv 0 (by simp) (by simp)
            simp only [List.getElem_cons_zero] at h0
            cases h0
            exact ⟨by simp [a], by simp [b]⟩
        · cases h
      | _ => simp [keyL] at h
  | [], _ :: _, _, _, h, _, _ => by simp [keyL] at h
  | _ :: _, [], _, _, h, _, _ => by simp [keyL] at h
/-- A key that fits is the one that is told. -/
theorem mapKey_mk {G : Ghost} {sh : KShape} {a : AV} {v : Value} {ns : List Int} (h : mapKey sh a = some ns) (hv : VR G a v) : mkKey sh ns = some v := by
  cases hv with
  | int k n =>
    cases sh with
    | one k' =>
      simp only [mapKey] at h
      split at h
      · rename_i hk; subst hk; cases h; rfl
      · cases h
    | many ks => simp [mapKey] at h
  | agg cs xs hs hc =>
    cases sh with
    | one k' => simp [mapKey] at h
    | many ks =>
      simp only [mapKey] at h
      obtain ⟨a, b⟩ := keyL_mk (xs := xs.toList) h (by simpa using hs) (fun i h1 h2 => by simpa using hc i h1 (by simpa using h2))
      unfold mkKey
      simp only
      rw [if_pos a, ← b]
  | _ => cases sh <;> simp [mapKey] at h
end
end Go.Gg
namespace Go.Gg
section
variable {P : Program} {G : Ghost} {S : St} {w : World}
theorem q_bits {op : BinOp} {T : TypeId} {k : IntKind} {m n : Int} {K : AV → Prop} (hop : op ≠ .shl ∧ op ≠ .shr) (h : vBits op k m n K) :
    ∃ v av, (binOp op T (.int k m) (.int k n)).run P w = .ok v w ∧ K av ∧ VR G av v := by
  cases op <;> simp only [vBits] at h <;> first
    | exact h.elim
    | (refine ⟨_, _, ?_, h, .int _ _⟩; simp [binOp, Op.intArith]; done)
    | (refine ⟨_, _, ?_, h.2, .int _ _⟩; simp [binOp, Op.intDiv, h.1])
    | (refine ⟨_, _, ?_, h, .int _ _⟩; simp [binOp, intBits_and, intBits_or, intBits_xor, intBits_andNot]; done)
    | (refine ⟨_, _, ?_, h, .bool _⟩; simp [binOp, Op.intCmp])
    | exact absurd rfl hop.1
    | exact absurd rfl hop.2
theorem q_shift {op : BinOp} {T : TypeId} {k k' : IntKind} {m n : Int} {K : AV → Prop} (h : vShift op k m n K) :
    ∃ v av, (binOp op T (.int k m) (.int k' n)).run P w = .ok v w ∧ K av ∧ VR G av v := by
  cases op <;> simp only [vShift] at h <;> try exact h.elim
  · obtain ⟨h0, h1, h⟩ := h
    refine ⟨_, _, ?_, h, .int _ _⟩
    have : min n.toNat k.bits = n.toNat := by omega
    have hn : ¬ n < 0 := by omega
    simp [binOp, Op.shift, hn, this]
  · obtain ⟨h0, h1, h⟩ := h
    refine ⟨_, _, ?_, h, .int _ _⟩
    have : min n.toNat k.bits = n.toNat := by omega
    have hn : ¬ n < 0 := by omega
    have hp : (0 : Int) ≤ 2 ^ n.toNat := Int.le_of_lt (Int.pow_pos (by decide))
    simp [binOp, Op.shift, hn, this, Int.fdiv_eq_ediv_of_nonneg _ hp]
theorem run_eqIn_bool {T : TypeId} {p q : Bool} (hu : P.underlying T = some .bool) (d : Nat) : (Op.equalIn (d + 1) T (.bool p) (.bool q)).run P w = .ok (p == q) w := by
  simp only [Op.equalIn, Sem.run_bind, run_underlying hu, Result.andThen_ok, Sem.run_pure]
theorem run_eq_bool {T : TypeId} {p q : Bool} (hu : P.underlying T = some .bool) : (Op.equal T (.bool p) (.bool q)).run P w = .ok (p == q) w := by
  unfold Op.equal Op.maxDepth
  exact run_eqIn_bool hu 9999
theorem run_eqIn_nil2 {T : TypeId}  {ms} (hu : P.underlying T = some (.interface ms)) (d : Nat) : (Op.equalIn (d + 1) T .nilIface .nilIface).run P w = .ok true w := by
  simp only [Op.equalIn, Sem.run_bind, run_underlying hu, Result.andThen_ok, Sem.run_pure]
theorem run_eq_nil2 {T : TypeId}  {ms} (hu : P.underlying T = some (.interface ms)) : (Op.equal T .nilIface .nilIface).run P w = .ok true w := by
  unfold Op.equal Op.maxDepth
  exact run_eqIn_nil2 hu 9999
theorem run_eqIn_nilL {T : TypeId} {t : TypeId} {q : Value} {ms} (hu : P.underlying T = some (.interface ms)) (d : Nat) : (Op.equalIn (d + 1) T .nilIface (.iface t q)).run P w = .ok false w := by
  simp only [Op.equalIn, Sem.run_bind, run_underlying hu, Result.andThen_ok, Sem.run_pure]
theorem run_eq_nilL {T : TypeId} {t : TypeId} {q : Value} {ms} (hu : P.underlying T = some (.interface ms)) : (Op.equal T .nilIface (.iface t q)).run P w = .ok false w := by
  unfold Op.equal Op.maxDepth
  exact run_eqIn_nilL hu 9999
theorem run_eqIn_nilR {T : TypeId} {t : TypeId} {q : Value} {ms} (hu : P.underlying T = some (.interface ms)) (d : Nat) : (Op.equalIn (d + 1) T (.iface t q) .nilIface).run P w = .ok false w := by
  simp only [Op.equalIn, Sem.run_bind, run_underlying hu, Result.andThen_ok, Sem.run_pure]
theorem run_eq_nilR {T : TypeId} {t : TypeId} {q : Value} {ms} (hu : P.underlying T = some (.interface ms)) : (Op.equal T (.iface t q) .nilIface).run P w = .ok false w := by
  unfold Op.equal Op.maxDepth
  exact run_eqIn_nilR hu 9999
theorem run_binOp_eq {T : TypeId} {x y : Value} {b : Bool} (h : (Op.equal T x y).run P w = .ok b w) : ((do pure (.bool (← Op.equal T x y))) : Sem Value).run P w = .ok (.bool b) w := by
  simp [h]
theorem run_binOp_ne {T : TypeId} {x y : Value} {b : Bool} (h : (Op.equal T x y).run P w = .ok b w) : ((do pure (.bool (!(← Op.equal T x y)))) : Sem Value).run P w = .ok (.bool (!b)) w := by
  simp [h]
theorem q_bin {op : BinOp} {T : TypeId} {x y : Operand} {a b : AV} {u v : Value} {K : AV → Prop} (hx : VR G a u) (hy : VR G b v) (h : vBin P op T x y a b K)
    (hcx : isConst x = true → ∃ c, x = .const c) (hcy : isConst y = true → ∃ c, y = .const c) :
    ∃ r av, (do eqGuard op T x y u v; binOp op T u v : Sem Value).run P w = .ok r w ∧ K av ∧ VR G av r := by
  cases hx with
  | int k m =>
    cases hy with
    | int k' n =>
      have hg : (eqGuard op T x y (.int k m) (.int k' n)).run P w = .ok () w := by simp [eqGuard_at_int]
      simp only [Sem.run_bind, hg, Result.andThen_ok]
      by_cases h1 : op = .shl
      · subst h1; exact q_shift h
      by_cases h2 : op = .shr
      · subst h2; exact q_shift h
      have hh : k = k' ∧ vBits op k m n K := by cases op <;> first | exact h | exact absurd rfl h1 | exact absurd rfl h2
      obtain ⟨rfl, hh⟩ := hh
      exact q_bits ⟨h1, h2⟩ hh
    | _ => exact h.elim
  | bool p =>
    cases hy with
    | bool q =>
      obtain ⟨ht, h⟩ := h
      have hu := td_bool ht
      have hg : (eqGuard op T x y (.bool p) (.bool q)).run P w = .ok () w := by simp [eqGuard_at_bool]
      simp only [Sem.run_bind, hg, Result.andThen_ok]
      cases op <;> first
        | exact h.elim
        | exact ⟨_, _, run_binOp_eq (run_eq_bool hu), h, .bool _⟩
        | exact ⟨_, _, run_binOp_ne (run_eq_bool hu), h, .bool _⟩
    | _ => exact h.elim
  | niface =>
    cases hy with
    | niface =>
      obtain ⟨ht, hc, h⟩ := h
      obtain ⟨ms, hu⟩ := td_iface ht
      have hg : (eqGuard op T x y .nilIface .nilIface).run P w = .ok () w := by
        simp only [Bool.or_eq_true] at hc
        rcases hc with hc | hc
        · obtain ⟨c, rfl⟩ := hcx hc; simp [eqGuard_nil_constL]
        · obtain ⟨c, rfl⟩ := hcy hc; simp [eqGuard_nil_constR]
      simp only [Sem.run_bind, hg, Result.andThen_ok]
      cases op <;> first
        | exact h.elim
        | exact ⟨_, _, run_binOp_eq (run_eq_nil2 hu), h, .bool _⟩
        | exact ⟨_, _, run_binOp_ne (run_eq_nil2 hu), h, .bool _⟩
    | iface t z q hz =>
      obtain ⟨ht, h⟩ := h
      obtain ⟨ms, hu⟩ := td_iface ht
      have hg : (eqGuard op T x y .nilIface (.iface t q)).run P w = .ok () w := by simp [eqGuard_nil_iface]
      simp only [Sem.run_bind, hg, Result.andThen_ok]
      cases op <;> first
        | exact h.elim
        | exact ⟨_, _, run_binOp_eq (run_eq_nilL hu), h, .bool _⟩
        | exact ⟨_, _, run_binOp_ne (run_eq_nilL hu), h, .bool _⟩
    | _ => exact h.elim
  | iface t z q hz =>
    cases hy with
    | niface =>
      obtain ⟨ht, h⟩ := h
      obtain ⟨ms, hu⟩ := td_iface ht
      have hg : (eqGuard op T x y (.iface t q) .nilIface).run P w = .ok () w := by simp [eqGuard_at_iface]
      simp only [Sem.run_bind, hg, Result.andThen_ok]
      cases op <;> first
        | exact h.elim
        | exact ⟨_, _, run_binOp_eq (run_eq_nilR hu), h, .bool _⟩
        | exact ⟨_, _, run_binOp_ne (run_eq_nilR hu), h, .bool _⟩
    | _ => exact h.elim
  | agg cs xs hs1 hc1 =>
    cases hy with
    | agg ds ys hs2 hc2 =>
      simp only [vBin] at h
      split at h
      · rename_i ks hk
        split at h
        · rename_i m n hm hn
          have k1 := mapKey_mk (sh := .many ks) (a := .agg cs) hm (.agg cs xs hs1 hc1)
          have k2 := mapKey_mk (sh := .many ks) (a := .agg ds) hn (.agg ds ys hs2 hc2)
          have hq := key_eqIn hk k1 k2 w
          have hg : (eqGuard op T x y (.agg xs) (.agg ys)).run P w = .ok () w := eqGuard_ints hk k1 k2
          simp only [Sem.run_bind, hg, Result.andThen_ok]
          cases op <;> first
            | exact h.elim
            | exact ⟨_, _, run_binOp_eq hq, h, .bool _⟩
            | exact ⟨_, _, run_binOp_ne hq, h, .bool _⟩
        · exact h.elim
      · exact h.elim
    | _ => exact h.elim
  | _ => exact h.elim
theorem q_un {op : UnOp} {a : AV} {u : Value} {K : AV → Prop} (hx : VR G a u) (h : vUn op a K) : ∃ r av, (Op.unary op u).run P w = .ok r w ∧ K av ∧ VR G av r := by
  cases hx <;> cases op <;> simp only [vUn] at h <;> first
    | exact h.elim
    | (refine ⟨_, _, ?_, h, .bool _⟩; simp [Op.unary]; done)
    | (refine ⟨_, _, ?_, h, .int _ _⟩; simp [Op.unary, Op.intArith]; done)
    | (refine ⟨_, _, ?_, h, .int _ _⟩; simp [Op.unary, bits, Op.intBits]; done)
/-- A part of an aggregate. -/
theorem q_part {T : TypeId} {cs : List AV} {xs : Array Value} {off : Nat} (hsz : 0 < sz P T) (hone : isAggT P T = false → sz P T = 1) (hl : off + sz P T ≤ cs.length)
    (hs : xs.size = cs.length) (hv : ∀ i (h : i < cs.length) (h' : i < xs.size), VR G cs[i] xs[i]) :
    ∃ v, (part T xs off).run P w = .ok v w ∧ VR G (ldv P T cs off) v := by
  cases ha : isAggT P T with
  | true =>
    refine ⟨.agg (xs.extract off (off + sz P T)), ?_, ?_⟩
    · simp only [part, Sem.run_bind, run_isAgg ha, Result.andThen_ok, if_true, run_sizeOf hsz, Sem.run_pure]
    · simp only [ldv, ha, cond_true]
      refine .agg _ _ (by simp; omega) (fun i h h' => ?_)
      simp only [List.getElem_take, List.getElem_drop, Array.getElem_extract]
      simp only [List.length_take, List.length_drop] at h
      exact hv _ (by omega) (by omega)
  | false =>
    obtain ⟨_, d, _, hd, _⟩ := sz_pos hsz
    have h1 := hone ha
    refine ⟨xs[off]'(by omega), ?_, ?_⟩
    · have hx : xs[off]? = some (xs[off]'(by omega)) := by simp
      simp only [part, Sem.run_bind, run_notAgg hd ha, Result.andThen_ok, Bool.false_eq_true, if_false, hx, Sem.run_pure]
    · simp only [ldv, ha, cond_false]
      rw [List.getD_eq_getElem?_getD, List.getElem?_eq_getElem (by omega)]
      exact hv _ _ _
theorem q_field {T f : Nat} {a : AV} {x : Value} {K : AV → Prop} (hx : VR G a x) (h : vField P T f a K) : ∃ v av, (Instr.field T x f).run P w = .ok v w ∧ K av ∧ VR G av v := by
  unfold vField at h
  cases hx with
  | agg cs xs hs hv =>
    simp only at h
    split at h
    · rename_i fs hd
      obtain ⟨fields, hu, rfl⟩ := td_struct hd
      obtain ⟨⟨hf, hsz, hone, hl⟩, hK⟩ := h
      obtain ⟨fd, hfd, hg⟩ := fs_getD hf
      rw [hg] at hK hsz hone hl
      simp only at hK hsz hone hl
      obtain ⟨v, h1, h2⟩ := q_part (P := P) (w := w) hsz hone hl hs hv
      refine ⟨v, _, ?_, hK, h2⟩
      simp only [Instr.field, Sem.run_bind, run_underlying hu, Result.andThen_ok, hfd, asAgg, Sem.run_pure, h1]
    · exact h.elim
  | _ => exact h.elim
theorem q_index {T : Nat} {a i : AV} {x y : Value} {K : AV → Prop} (hx : VR G a x) (hy : VR G i y) (h : vIndex P T a i K) :
    ∃ v av, (Instr.index T x y).run P w = .ok v w ∧ K av ∧ VR G av v := by
  unfold vIndex at h
  cases hy with
  | int ki n =>
    cases hx with
    | agg cs xs hs hv =>
      simp only at h
      split at h
      · rename_i len e hd
        have hu := td_array hd
        obtain ⟨⟨h0, h1⟩, ⟨hsz, hone, hl⟩, hK⟩ := h
        obtain ⟨v, q1, q2⟩ := q_part (P := P) (w := w) hsz hone hl hs hv
        refine ⟨v, _, ?_, hK, q2⟩
        simp [Instr.index, asIntOf, run_underlying hu, h0, h1, run_sizeOf hsz, q1]
      · exact h.elim
    | str s =>
      simp only at h
      split at h
      · rename_i hd
        have hu : P.underlying T = some .string := by unfold td at hd; split at hd <;> first | assumption | cases hd
        obtain ⟨⟨h0, h1⟩, hK⟩ := h
        have hlt : n.toNat < s.size := by omega
        refine ⟨_, _, ?_, hK, .int _ _⟩
        simp [Instr.index, asIntOf, run_underlying hu, h0, hlt, byteAt]
      · exact h.elim
    | _ => exact h.elim
  | _ => exact h.elim
theorem bnd_run {lo : Option AV} {vlo : Option Value} {d : Nat} {n : Int} (hv : ∀ a, lo = some a → ∃ x, vlo = some x ∧ VR G a x) (hn : lo = none → vlo = none) (h : bnd lo d = some n) :
    (lo = none ∧ vlo = none ∧ n = d) ∨ ∃ k, vlo = some (.int k n) := by
  unfold bnd at h
  split at h
  · exact .inl ⟨rfl, hn rfl, by injection h with h; exact h.symm⟩
  · obtain ⟨x, hx, hr⟩ := hv _ rfl
    cases hr
    injection h with h
    subst h
    exact .inr ⟨_, hx⟩
  · cases h
theorem run_bounds {vlo vhi : Option Value} {len cap : Nat} {l h : Int} (hlo : (vlo = none ∧ l = 0) ∨ ∃ k, vlo = some (.int k l)) (hhi : (vhi = none ∧ h = len) ∨ ∃ k, vhi = some (.int k h))
    (h0 : 0 ≤ l) (h1 : l ≤ h) (h2 : h ≤ len) (hc : len ≤ cap) : (Instr.sliceBounds true len cap vlo vhi none).run P w = .ok (l.toNat, h.toNat, cap) w := by
  have hh : (match vhi with | some v => Instr.sliceBound v cap .sliceAcap | none => (pure len : Sem Nat)).run P w = .ok h.toNat w := by
    rcases hhi with ⟨rfl, rfl⟩ | ⟨k, rfl⟩
    · simp
    · have e1 : 0 ≤ h ∧ h ≤ (cap : Int) := by omega
      simp only [Instr.sliceBound, asIntOf, Sem.run_bind, Sem.run_pure, Result.andThen_ok, if_pos e1]
  have hl : (match vlo with | some v => Instr.sliceBound v h.toNat .sliceB | none => (pure 0 : Sem Nat)).run P w = .ok l.toNat w := by
    rcases hlo with ⟨rfl, rfl⟩ | ⟨k, rfl⟩
    · simp
    · have e1 : 0 ≤ l ∧ l ≤ ((h.toNat : Nat) : Int) := by omega
      simp only [Instr.sliceBound, asIntOf, Sem.run_bind, Sem.run_pure, Result.andThen_ok, if_pos e1]
  rcases vhi with _ | vh <;> rcases vlo with _ | vl <;> simp only at hh hl <;> simp [Instr.sliceBounds, hh, hl] <;> simp_all
theorem q_slice {T : TypeId} {a : AV} {x : Value} {lo hi mx : Option AV} {vlo vhi vmx : Option Value} {K : AV → Prop} (hx : VR G a x)
    (hvlo : ∀ a, lo = some a → ∃ x, vlo = some x ∧ VR G a x) (hnlo : lo = none → vlo = none) (hvhi : ∀ a, hi = some a → ∃ x, vhi = some x ∧ VR G a x) (hnhi : hi = none → vhi = none)
    (hmx : mx = none → vmx = none) (h : vSlice P T a lo hi mx K) : ∃ v av, (Instr.sliceAt T x vlo vhi vmx).run P w = .ok v w ∧ K av ∧ VR G av v := by
  unfold vSlice at h
  split at h
  · rename_i e hd
    have hu := td_slice hd
    rw [hmx rfl]
    have key : ∀ (ao : Option Addr) (len cap : Nat) (l h : Int), (Instr.sliceBounds true len cap vlo vhi none).run P w = .ok (l.toNat, h.toNat, cap) w → 0 < sz P e →
        (Instr.sliceAt T (.slice ao len cap) vlo vhi none).run P w = .ok (.slice (if cap = l.toNat then ao else ao.map (·.add (l.toNat * sz P e))) (h.toNat - l.toNat) (cap - l.toNat)) w := by
      intro ao len cap l h hb hs
      simp [Instr.sliceAt, Instr.slice, run_underlying hu, hb, run_sizeOf hs]
    cases hx with
    | sl kk r k g off len a L hL hk hc hm ha =>
      simp only at h
      split at h
      · rename_i l hh hbl hbh
        obtain ⟨⟨h0, h1, h2⟩, ⟨hk0, hkk⟩, hK⟩ := h
        have e1 := bnd_run (G := G) hvlo hnlo hbl
        have e2 := bnd_run (G := G) hvhi hnhi hbh
        have hb := run_bounds (P := P) (w := w) (vlo := vlo) (vhi := vhi) (len := len) (cap := L.cap - off) (l := l) (h := hh)
          (e1.imp (fun q => ⟨q.2.1, q.2.2⟩) id) (e2.imp (fun q => ⟨q.2.1, q.2.2⟩) id) h0 h1 h2 (by omega)
        refine ⟨_, _, key a len (L.cap - off) l hh hb (by omega), hK, ?_⟩
        have hcap : L.cap - off - l.toNat = L.cap - (off + l.toNat) := by omega
        rw [hcap]
        refine .sl _ _ _ _ _ _ _ L hL hk (by omega) hm (fun hlt => ?_)
        rw [if_neg (by omega), ha (by omega)]
        simp only [Option.map_some, addr_add, ← hkk, hk, Nat.add_mul]
      · exact h.elim
    | list es a len cap c x k u hn hcap hm ha hk hi hv =>
      simp only at h
      split at h
      · rename_i l hh hbl hbh
        obtain ⟨⟨h0, h1, h2⟩, ⟨hs0, hall⟩, hK⟩ := h
        have e1 := bnd_run (G := G) hvlo hnlo hbl
        have e2 := bnd_run (G := G) hvhi hnhi hbh
        have hb := run_bounds (P := P) (w := w) (vlo := vlo) (vhi := vhi) (len := len) (cap := cap) (l := l) (h := hh)
          (e1.imp (fun q => ⟨q.2.1, q.2.2⟩) id) (e2.imp (fun q => ⟨q.2.1, by rw [hn]; exact q.2.2⟩) id) h0 h1 (by omega) (by omega)
        refine ⟨_, _, key a len cap l hh hb hs0, hK, ?_⟩
        have hlen : ((es.drop l.toNat).take (hh.toNat - l.toNat)).length = hh.toNat - l.toNat := by simp; omega
        have hkk : ∀ i (h : i < es.length), k = sz P e := fun i h => by
          have h1 := hk i h
          have h2 := List.all_eq_true.1 hall es[i] (List.getElem_mem h)
          simp at h2; omega
        refine .list _ _ _ _ c (x + l.toNat * k) k (fun i j => u (l.toNat + i) j) hlen.symm (by omega) (by omega) (fun hp => ?_) (fun i hi' => ?_) (fun i j hi' hj => ?_) (fun i hi' j hj => ?_)
        · rw [if_neg (by omega), ha (by omega)]
          simp only [Option.map_some, addr_add]
          rw [hkk 0 (by omega)]
        · simp only [List.getElem_take, List.getElem_drop]
          exact hk _ _
        · have := hi (l.toNat + i) j (by omega) hj
          rw [Nat.add_mul, Nat.add_assoc, ← Nat.add_assoc] at this
          exact this
        · simp only [List.getElem_take, List.getElem_drop] at hj ⊢
          exact hv _ _ j hj
      · exact h.elim
    | _ => exact h.elim
  · exact h.elim
end
end Go.Gg
namespace Go.Gg
section
variable {P : Program} {G : Ghost} {S : St} {w : World} {ty : TypeId}
theorem run_places' : ∀ (fs : List Field), (∀ f ∈ fs, 0 < sz P f.type) →
    (fs.mapM fun f => Functor.map (Prod.mk f.offset) (sizeOf f.type)).run P w = .ok (fs.map fun f => (f.offset, sz P f.type)) w
  | [], _ => by simp
  | f :: rest, h => by
    have h1 := run_sizeOf (P := P) (w := w) (h f (by simp))
    simp [List.mapM_cons, h1, run_places' rest (fun g hg => h g (by simp [hg]))]
theorem foldl_set (off : Nat) : ∀ (xs : List Value) (b : Nat) (cs : Array Value),
    ((xs.zipIdx b).foldl (fun cs (p : Value × Nat) => cs.setIfInBounds (off + p.2) p.1) cs).size = cs.size ∧
    ∀ n, n < cs.size → ((xs.zipIdx b).foldl (fun cs (p : Value × Nat) => cs.setIfInBounds (off + p.2) p.1) cs)[n]? =
      if h : off + b ≤ n ∧ n < off + b + xs.length then some (xs[n - (off + b)]'(by omega)) else cs[n]?
  | [], b, cs => ⟨by simp, fun n _ => by rw [dif_neg (fun hc => by have := hc.1; have := hc.2; simp only [List.length_nil] at *; omega)]; rfl⟩
  | x :: xs, b, cs => by
    obtain ⟨h1, h2⟩ := foldl_set off xs (b + 1) (cs.setIfInBounds (off + b) x)
    simp only [List.zipIdx_cons, List.foldl_cons]
    refine ⟨by rw [h1]; simp, fun n hn => ?_⟩
    rw [h2 n (by simpa using hn)]
    by_cases hc : off + b = n
    · subst hc
      rw [dif_neg (by omega), dif_pos (by simp)]
      simp [hn]
    · by_cases hd : off + (b + 1) ≤ n ∧ n < off + (b + 1) + xs.length
      · rw [dif_pos hd, dif_pos (by simp; omega)]
        obtain ⟨d, hd'⟩ : ∃ d, n - (off + b) = d + 1 := ⟨n - (off + b) - 1, by omega⟩
        have : n - (off + (b + 1)) = d := by omega
        simp only [hd', this, List.getElem_cons_succ]
      · rw [dif_neg hd, dif_neg (by simp; omega), Array.getElem?_setIfInBounds_ne hc]
/-- A part of an aggregate is overwritten. -/
theorem VR.splice {cs : List AV} {xs : Array Value} {a : AV} {v : Value} {off : Nat} (h : VR G (.agg cs) (.agg xs)) (ha : VR G a v) (hs : a.solid = true) (hl : off + a.cells.length ≤ cs.length) :
    VR G (stv (.agg cs) off a) (.agg (v.cells.zipIdx.foldl (fun cs (p : Value × Nat) => cs.setIfInBounds (off + p.2) p.1) xs)) := by
  cases h with
  | agg _ _ hsz hv =>
  obtain ⟨c1, c2⟩ := ha.cells hs
  have hf := foldl_set off v.cells.toList 0 xs
  have he : (v.cells.zipIdx.foldl (fun cs (p : Value × Nat) => cs.setIfInBounds (off + p.2) p.1) xs) = (v.cells.toList.zipIdx 0).foldl (fun cs (p : Value × Nat) => cs.setIfInBounds (off + p.2) p.1) xs := by
    rw [← Array.foldl_toList, Array.toList_zipIdx]
  rw [he]
  have hvl : v.cells.toList.length = a.cells.length := by simpa using c1
  simp only [stv]
  refine .agg _ _ (by rw [hf.1, hsz]; simp; omega) (fun i h1 h2 => ?_)
  have hi : i < xs.size := by rw [hf.1] at h2; exact h2
  have hg := hf.2 i hi
  rw [Array.getElem?_eq_getElem h2] at hg
  split at hg
  · rename_i hc
    simp only [Nat.add_zero] at hc
    have : ((v.cells.toList.zipIdx 0).foldl (fun cs (p : Value × Nat) => cs.setIfInBounds (off + p.2) p.1) xs)[i] = v.cells.toList[i - (off + 0)]'(by omega) := Option.some.inj hg
    rw [this]
    simp only [Nat.add_zero, Array.getElem_toList]
    have e1 : (List.take off cs ++ a.cells ++ List.drop (off + a.cells.length) cs)[i] = a.cells[i - off]'(by omega) := by
      rw [List.getElem_append_left (by simp; omega), List.getElem_append_right (by simp; omega)]
      congr 1
      simp; omega
    rw [e1]
    exact c2 _ _ _
  · rename_i hc
    simp only [Nat.add_zero] at hc
    rw [Array.getElem?_eq_getElem hi] at hg
    rw [Option.some.inj hg]
    have e1 : (List.take off cs ++ a.cells ++ List.drop (off + a.cells.length) cs)[i] = cs[i]'(by omega) := by
      by_cases hlt : i < off
      · rw [List.getElem_append_left (by simp; omega), List.getElem_append_left (by simp; omega), List.getElem_take]
      · rw [List.getElem_append_right (by simp; omega), List.getElem_drop]
        congr 1
        simp; omega
    rw [e1]
    exact hv _ _ _
theorem length_stv {cs : List AV} {a : AV} {off : Nat} (hl : off + a.cells.length ≤ cs.length) : ∃ cs', stv (.agg cs) off a = .agg cs' ∧ cs'.length = cs.length :=
  ⟨_, rfl, by simp; omega⟩
theorem fill_sound (place : Nat → Option (Nat × Nat)) (off : Nat → Nat) (n : Nat) : ∀ (parts : List (Nat × AV)) (vs : List (Nat × Value)) (cs : List AV) (xs : Array Value),
    vs.length = parts.length → (∀ j (h : j < parts.length) (h' : j < vs.length), vs[j].1 = parts[j].1 ∧ VR G parts[j].2 vs[j].2) →
    (∀ p ∈ parts, p.2.solid = true ∧ place p.1 = some (off p.1, p.2.cells.length) ∧ off p.1 + p.2.cells.length ≤ n) → cs.length = n → VR G (.agg cs) (.agg xs) →
    ∃ ys, Instr.fill place xs vs = some ys ∧ VR G (parts.foldl (fun v p => stv v (off p.1) p.2) (.agg cs)) (.agg ys)
  | [], [], cs, xs, _, _, _, _, h => ⟨xs, rfl, h⟩
  | (i, a) :: parts, (i', v) :: vs, cs, xs, hlen, hr, hp, hn, h => by
    have h0 := hr 0 (by simp) (by simp)
    simp only [List.getElem_cons_zero] at h0
    obtain ⟨hii, hv⟩ := h0
    subst hii
    obtain ⟨hs, hpl, hl⟩ := hp (i', a) (by simp)
    simp only at hs hpl hl
    obtain ⟨c1, _⟩ := VR.cells hv hs
    have hx : xs.size = cs.length := by cases h; assumption
    obtain ⟨cs', e1, e2⟩ := length_stv (cs := cs) (a := a) (off := off i') (by omega)
    have hnext := VR.splice h hv hs (off := off i') (by omega)
    rw [e1] at hnext
    obtain ⟨ys, q1, q2⟩ := fill_sound place off n parts vs cs' _ (by simpa using hlen) (fun j h1 h2 => hr (j + 1) (by simpa using h1) (by simpa using h2))
      (fun p hp' => hp p (by simp [hp'])) (by omega) hnext
    refine ⟨ys, ?_, ?_⟩
    · simp only [Instr.fill, hpl]
      rw [if_neg (by simp; omega)]
      exact q1
    · simp only [List.foldl_cons, e1]
      exact q2
theorem tyok_zero {T : TypeId} (h : tyok P T = true) : ∃ i z, P.info? T = some i ∧ i.zero = some z ∧ z.cells.size = i.size ∧ zval P T = z ∧ 0 < i.size ∧ (ofConst z).solid = true := by
  unfold tyok at h
  cases hi : P.info? T with
  | none => simp [hi] at h
  | some i =>
    cases hz : i.zero with
    | none => simp [hi, hz] at h
    | some z =>
      simp only [hi, hz, Bool.and_eq_true, beq_iff_eq, decide_eq_true_eq] at h
      exact ⟨i, z, rfl, hz, h.1.1.1, by simp [zval, hi, hz], h.2, h.1.2⟩
theorem run_zero {T : TypeId} (h : tyok P T = true) : (zeroValue T).run P w = .ok (zval P T) w ∧ VR G (zav P T) (zval P T) := by
  obtain ⟨i, z, hi, hz, _, hv, _⟩ := tyok_zero h
  exact ⟨by simp [zeroValue, typeInfo, hi, hz, hv], VR.ofConst G _⟩
theorem q_build {T : TypeId} {parts : List (Nat × AV)} {vs : List (Nat × Value)} {K : AV → Prop} (hlen : vs.length = parts.length)
    (hr : ∀ j (h : j < parts.length) (h' : j < vs.length), vs[j].1 = parts[j].1 ∧ VR G parts[j].2 vs[j].2) (h : vBuild P T parts K) :
    ∃ v av, (Instr.build T vs.toArray).run P w = .ok v w ∧ K av ∧ VR G av v := by
  unfold vBuild at h
  split at h
  · rename_i fs hd
    obtain ⟨fields, hu, rfl⟩ := td_struct hd
    obtain ⟨h1, h2, hK⟩ := h
    simp only [Bool.and_eq_true, List.all_map, List.all_eq_true, Function.comp, decide_eq_true_eq] at h1
    obtain ⟨⟨hty, hag⟩, hfs⟩ := h1
    obtain ⟨i, z, hi, hz, hzs, hzv, hz0, hzsol⟩ := tyok_zero hty
    have hsz : sz P T = i.size := by simp [sz, hi, hu]
    obtain ⟨hzr, hzV⟩ := run_zero (P := P) (G := G) (w := w) hty
    have hpl := run_places' (P := P) (w := w) fields.toList (fun f hf => hfs f hf)
    have hplA : (fields.mapM fun f => do pure (f.offset, ← sizeOf f.type) : Sem (Array (Nat × Nat))).run P w = .ok (fields.map fun f => (f.offset, sz P f.type)) w := by
      simp [Array.mapM_eq_mapM_toList, hpl]
      apply Array.ext'; simp
    obtain ⟨cs, hcs⟩ : ∃ cs, zav P T = .agg cs := by
      cases hz' : zav P T with
      | agg cs => exact ⟨cs, rfl⟩
      | _ => simp [isAggZ, hz'] at hag
    rw [hcs] at hzV hK
    obtain ⟨xs, hxs⟩ : ∃ xs, zval P T = .agg xs := by
      generalize zval P T = zz at hzV
      cases hzV; exact ⟨_, rfl⟩
    rw [hxs] at hzV
    have hn : cs.length = sz P T := by
      cases hzV with
      | agg _ _ hq _ => rw [hsz, ← hzs, ← hzv, hxs]; simp [Value.cells, hq]
    obtain ⟨ys, y1, y2⟩ := fill_sound (G := G) ((fields.map fun f => (f.offset, sz P f.type))[·]?) (fun i => ((fields.toList.map fun f => (f.offset, f.type)).getD i (0, 0)).1) (sz P T) parts vs cs xs hlen hr
      (fun p hp => by
        have := List.all_eq_true.1 h2 p hp
        simp only [Bool.and_eq_true, beq_iff_eq, decide_eq_true_eq] at this
        obtain ⟨⟨⟨a1, a2⟩, a3⟩, a4⟩ := this
        obtain ⟨fd, f1, f2⟩ := fs_getD a3
        refine ⟨a1, ?_, a4⟩
        rw [f2] at a2 ⊢
        simp [f1, a2]) hn hzV
    refine ⟨.agg ys, _, ?_, hK, y2⟩
    simp only [Instr.build, Sem.run_bind, hzr, Result.andThen_ok, run_underlying hu, hplA, hxs, Value.cells]
    simp only [Array.getElem?_map] at y1
    simp [y1]
  · rename_i len e hd
    have hu := td_array hd
    obtain ⟨h1, h2, hK⟩ := h
    simp only [Bool.and_eq_true, decide_eq_true_eq] at h1
    obtain ⟨⟨hty, hag⟩, hse⟩ := h1
    obtain ⟨i, z, hi, hz, hzs, hzv, hz0, hzsol⟩ := tyok_zero hty
    have hsz : sz P T = i.size := by simp [sz, hi, hu]
    obtain ⟨hzr, hzV⟩ := run_zero (P := P) (G := G) (w := w) hty
    obtain ⟨cs, hcs⟩ : ∃ cs, zav P T = .agg cs := by
      cases hz' : zav P T with
      | agg cs => exact ⟨cs, rfl⟩
      | _ => simp [isAggZ, hz'] at hag
    rw [hcs] at hzV hK
    obtain ⟨xs, hxs⟩ : ∃ xs, zval P T = .agg xs := by
      generalize zval P T = zz at hzV
      cases hzV; exact ⟨_, rfl⟩
    rw [hxs] at hzV
    have hn : cs.length = sz P T := by
      cases hzV with
      | agg _ _ hq _ => rw [hsz, ← hzs, ← hzv, hxs]; simp [Value.cells, hq]
    obtain ⟨ys, y1, y2⟩ := fill_sound (G := G) (fun i => some (i * sz P e, sz P e)) (fun i => i * sz P e) (sz P T) parts vs cs xs hlen hr
      (fun p hp => by
        have := List.all_eq_true.1 h2 p hp
        simp only [Bool.and_eq_true, beq_iff_eq, decide_eq_true_eq] at this
        obtain ⟨⟨a1, a2⟩, a4⟩ := this
        exact ⟨a1, by rw [a2], a4⟩) hn hzV
    refine ⟨.agg ys, _, ?_, hK, y2⟩
    simp only [Instr.build, Sem.run_bind, hzr, Result.andThen_ok, run_underlying hu, run_sizeOf hse, hxs, Value.cells]
    simp [y1]
  · exact h.elim
theorem q_len {T : TypeId} {a : AV} {x : Value} {K : AV → Prop} (hx : VR G a x) (h : vLen P T a K) :
    ∃ v av, (Builtin.len_ #[T] ty #[x]).run P w = .ok v w ∧ K av ∧ VR G av v := by
  unfold vLen at h
  split at h
  · rename_i e hd
    have hu := td_slice hd
    cases hx with
    | sl kk r k g off len a L hL hk hc hm ha => exact ⟨_, _, by simp [Builtin.len_, run_underlying hu]; rfl, h, .int _ _⟩
    | list es a n cap c x k u hn hcap hm ha hk hi hv => subst hn; exact ⟨_, _, by simp [Builtin.len_, run_underlying hu]; rfl, h, .int _ _⟩
    | nil => exact ⟨_, _, by simp [Builtin.len_, run_underlying hu]; rfl, h, .int _ _⟩
    | _ => exact h.elim
  · exact h.elim
theorem q_lenS {T : TypeId} {a : AV} {x : Value} {K : AV → Prop} (hr : Rel G S w) (hx : VR G a x) (h : vLenS P T a S K) :
    ∃ v av, (Builtin.len_ #[T] ty #[x]).run P w = .ok v w ∧ K av ∧ VR G av v := by
  by_cases hm : ∃ r k g, a = .map r k g
  · obtain ⟨r, k, g, rfl⟩ := hm
    cases hx with
    | map _ _ _ L hL =>
    simp only [vLenS] at h
    split at h
    · rename_i sh n f g' hS
      split at h
      · rename_i kt et hd
        obtain ⟨rfl, hK⟩ := h
        obtain ⟨L', hL', hobj, _⟩ := hr.obj _ _ _ _ hS
        obtain rfl : L' = L := by rw [hL] at hL'; exact (Option.some.inj hL').symm
        obtain ⟨_, ents, clock, h1, h2, _⟩ := hobj
        refine ⟨_, _, ?_, hK, .int _ _⟩
        simp [Builtin.len_, run_underlying (td_map hd), MapKept.run_getObj_map h1, Result.andThen, h2, goInt]
      · exact h.elim
    · exact h.elim
  · have : vLenS P T a S K = vLen P T a K := by
      cases a <;> first | rfl | exact absurd ⟨_, _, _, rfl⟩ hm
    rw [this] at h
    exact q_len hx h
theorem VR.pair {a b : AV} {x y : Value} (h1 : VR G a x) (h2 : VR G b y) : VR G (.tuple [a, b]) (.tuple #[x, y]) :=
  .tuple _ _ rfl (fun i hi _ => by
    match i with
    | 0 => exact h1
    | 1 => exact h2)
theorem q_lookup {T : TypeId} {ok : Bool} {a i : AV} {x y : Value} {K : AV → Prop} (hr : Rel G S w) (hx : VR G a x) (hi : VR G i y) (h : vLookup P T ok a i S K) :
    ∃ v av, (Instr.lookup T x y ok).run P w = .ok v w ∧ K av ∧ VR G av v := by
  unfold vLookup at h
  cases hx with
  | map r k g L hL =>
    simp only at h
    split at h
    · rename_i sh n f g' hS
      split at h
      · rename_i kt et ns hd hm
        obtain ⟨⟨rfl, hk, hty⟩, hK⟩ := h
        obtain ⟨L', hL', hobj, _⟩ := hr.obj _ _ _ _ hS
        obtain rfl : L' = L := by rw [hL] at hL'; exact (Option.some.inj hL').symm
        obtain ⟨_, ents, clock, h1, _, h3, h4, _⟩ := hobj
        have hkey := mapKey_mk hm hi
        have hu := td_map hd
        rcases key_find hk hkey w ents.toList (fun e he => let ⟨ns, _, a, _, _⟩ := h3 e he; ⟨ns, a⟩) with ⟨f1, f2⟩ | ⟨j, e, f1, f2, f3⟩
        · have hn : f ns = none := by
            cases hf : f ns with
            | none => rfl
            | some z =>
              obtain ⟨e, he, hke⟩ := h4 ns z hf
              exact absurd (Option.some.inj (hke.symm.trans hkey)) (f2 e he)
          rw [hn] at hK
          have hz := run_zero (P := P) (G := G) (w := w) hty
          cases ok with
          | true => exact ⟨.tuple #[zval P et, .bool false], _, by simp [Instr.lookup, run_underlying hu, MapKept.run_getObj_map h1, key_check hk hkey, f1, hz.1, Result.andThen], hK, hz.2.pair (.bool _)⟩
          | false => exact ⟨zval P et, _, by simp [Instr.lookup, run_underlying hu, MapKept.run_getObj_map h1, key_check hk hkey, f1, hz.1, Result.andThen], hK, hz.2⟩
        · obtain ⟨ns', z, a1, a2, a3⟩ := h3 e (List.mem_of_getElem? f2)
          obtain rfl : ns' = ns := mkKey_inj a1 (by rw [f3]; exact hkey)
          rw [a2] at hK
          cases ok with
          | true => exact ⟨.tuple #[e.val, .bool true], _, by simp [Instr.lookup, run_underlying hu, MapKept.run_getObj_map h1, key_check hk hkey, f1, Result.andThen], hK, a3.pair (.bool _)⟩
          | false => exact ⟨e.val, _, by simp [Instr.lookup, run_underlying hu, MapKept.run_getObj_map h1, key_check hk hkey, f1, Result.andThen], hK, a3⟩
      · exact h.elim
    · exact h.elim
  | _ => exact h.elim
theorem q_assert {T xT : TypeId} {ok : Bool} {a : AV} {x : Value} {K : AV → Prop} (hx : VR G a x) (h : vAssert P T ok a K) :
    ∃ v av, (Instr.typeAssert x xT T ok).run P w = .ok v w ∧ K av ∧ VR G av v := by
  obtain ⟨hc, h⟩ := h
  obtain ⟨d, hd, hne⟩ := td_concrete hc
  have hpair : ∀ (b c : AV) (x y : Value), VR G b x → VR G c y → VR G (.tuple [b, c]) (.tuple #[x, y]) := fun b c x y h1 h2 =>
    .tuple _ _ rfl (fun i hi _ => by
      match i with
      | 0 => exact h1
      | 1 => exact h2)
  have hz : tyok P T = true → ok = true → ∀ static dynamic missing, (do
      if ok then pure (.tuple #[← zeroValue T, .bool false]) else runtimePanic (.typeAssertion static dynamic T missing) : Sem Value).run P w = .ok (.tuple #[zval P T, .bool false]) w := by
    intro hty hok st dy mi
    simp [hok, (run_zero (P := P) (G := G) (w := w) hty).1]
  cases hx with
  | iface t v y hv =>
    obtain ⟨h1, h2⟩ := h
    by_cases ht : t = T
    · subst ht
      have h3 := h1 rfl
      cases ok with
      | true =>
        refine ⟨.tuple #[y, .bool true], _, ?_, h3, hpair _ _ _ _ hv (.bool _)⟩
        simp only [Instr.typeAssert, Sem.run_bind, run_underlying hd, Result.andThen_ok]
        cases d <;> first | exact absurd rfl (hne _) | simp
      | false =>
        refine ⟨y, _, ?_, h3, hv⟩
        simp only [Instr.typeAssert, Sem.run_bind, run_underlying hd, Result.andThen_ok]
        cases d <;> first | exact absurd rfl (hne _) | simp
    · obtain ⟨h3, h4, h5⟩ := h2 ht
      refine ⟨.tuple #[zval P T, .bool false], _, ?_, h5, hpair _ _ _ _ (run_zero (w := w) h4).2 (.bool _)⟩
      simp only [Instr.typeAssert, Sem.run_bind, run_underlying hd, Result.andThen_ok]
      have := hz h4 h3
      cases d <;> first | exact absurd rfl (hne _) | (simp only [if_neg ht]; exact hz h4 h3 _ _ _)
  | niface =>
    obtain ⟨h3, h4, h5⟩ := h
    refine ⟨.tuple #[zval P T, .bool false], _, ?_, h5, hpair _ _ _ _ (run_zero (w := w) h4).2 (.bool _)⟩
    simp only [Instr.typeAssert, Sem.run_bind, run_underlying hd, Result.andThen_ok]
    cases d <;> first | exact absurd rfl (hne _) | exact hz h4 h3 _ _ _
  | _ => exact h.elim
theorem vq_sound {o : Oper} {e : Operand → AV} {K : AV → Prop} (h : vq P o.op e S K) : QOp P o e S K := by
  intro G ρ w hr he
  obtain ⟨dst, op, ty, pos, after, guard⟩ := o
  simp only at h
  have lift : ∀ (s : Sem Value) , (∃ v av, s.run P w = .ok v w ∧ K av ∧ VR G av v) → ∃ v av, ((do pure (.value (← s))) : Sem Next).run P w = .ok (.value v) w ∧ K av ∧ VR G av v := by
    rintro s ⟨v, av, h1, h2, h3⟩
    exact ⟨v, av, by simp [h1], h2, h3⟩
  cases op with
  | move x => exact ⟨ρ x, _, by simp [execOp], h, he x⟩
  | assign x => exact ⟨ρ x, _, by simp [execOp], h, he x⟩
  | pick c a b =>
    simp only [vq] at h
    split at h
    · rename_i v hc
      have hcc := he c
      rw [hc] at hcc
      generalize hcv : ρ c = cv at hcc
      cases hcc
      refine ⟨if v then ρ a else ρ b, _, by simp [execOp, hcv, asBool], h, ?_⟩
      cases v
      · exact he b
      · exact he a
    · exact h.elim
  | binOp bop T x y yT =>
    exact lift _ (q_bin (he x) (he y) h (fun hx => by cases x <;> first | exact ⟨_, rfl⟩ | cases hx) (fun hy => by cases y <;> first | exact ⟨_, rfl⟩ | cases hy))
  | unOp u T x => exact lift _ (q_un (he x) h)
  | convert src dst' x =>
    simp only [vq] at h
    split at h
    · rename_i k n k' k'' hx hd hs
      have hxx := he x
      rw [hx] at hxx
      generalize hcv : ρ x = cv at hxx
      cases hxx
      refine lift _ ⟨_, _, ?_, h, .int _ _⟩
      simp [hcv, convert, run_underlying (td_int hs), run_underlying (td_int hd), Conv.intToInt]
    · exact h.elim
  | makeInterface T x =>
    obtain ⟨hc, h⟩ := h
    obtain ⟨d, hd, hne⟩ := td_concrete hc
    refine lift _ ⟨_, _, ?_, h, .iface _ _ _ (he x)⟩
    simp only [Instr.makeInterface, Sem.run_bind, run_underlying hd, Result.andThen_ok]
    cases d <;> first | exact absurd rfl (hne _) | rfl
  | makeFunc fn first caps =>
    refine lift _ ⟨.func fn (first.map ρ) (caps.map ρ), _, by simp [Instr.makeFunc], h, .fn _ _ _ _ _ (by simp) (by simp) (fun i h1 h2 => ?_) (fun i h1 h2 => ?_)⟩
    · simpa using he _
    · simpa using he _
  | build T parts =>
    simp only [vq] at h
    have := q_build (P := P) (G := G) (w := w) (T := T) (parts := parts.toList.map fun p => (p.1, e p.2)) (vs := parts.toList.map fun p => (p.1, ρ p.2)) (by simp)
      (fun j h1 h2 => by simpa using he _) h
    have hq : (parts.toList.map fun p => (p.1, ρ p.2)).toArray = parts.map fun p => (p.1, ρ p.2) := by apply Array.ext'; simp
    rw [hq] at this
    exact lift _ this
  | load T a => exact lift _ (q_load hr (he a) h)
  | nilCheck x =>
    obtain ⟨hc, h⟩ := h
    have hx := he x
    generalize hcv : ρ x = cv at hx
    refine ⟨cv, _, ?_, h, hx⟩
    cases hx' : e x <;> rw [hx'] at hc hx <;> first
      | exact hc.elim
      | (cases hx; simp [execOp, hcv]; done)
      | skip
    rename_i f first caps
    cases f <;> first | exact hc.elim | (cases hx; simp [execOp, hcv])
  | fieldAddr T x f => exact lift _ (q_fieldAddr (he x) h)
  | field T x f => exact lift _ (q_field (he x) h)
  | indexAddr T x i => exact lift _ (q_idxAddr (he x) (he i) h)
  | index T x i => exact lift _ (q_index (he x) (he i) h)
  | slice T x lo hi mx =>
    refine lift _ (q_slice (he x) (lo := lo.map e) (hi := hi.map e) (mx := mx.map e) (fun a ha => ?_) (fun hn => ?_) (fun a ha => ?_) (fun hn => ?_) (fun hn => ?_) h)
    · cases lo with
      | none => simp at ha
      | some z => simp at ha; subst ha; exact ⟨_, rfl, he z⟩
    · cases lo with
      | none => rfl
      | some z => simp at hn
    · cases hi with
      | none => simp at ha
      | some z => simp at ha; subst ha; exact ⟨_, rfl, he z⟩
    · cases hi with
      | none => rfl
      | some z => simp at hn
    · cases mx with
      | none => rfl
      | some z => simp at hn
  | extract x i =>
    simp only [vq] at h
    split at h
    · rename_i vs hx
      have hxx := he x
      rw [hx] at hxx
      generalize hcv : ρ x = cv at hxx
      cases hxx with
      | tuple _ xs hs hv =>
      obtain ⟨hi, h⟩ := h
      have hi' : i < xs.size := by omega
      refine lift _ ⟨xs[i], _, ?_, h, ?_⟩
      · simp [Instr.extract, hi', hcv]
      · rw [List.getD_eq_getElem?_getD, List.getElem?_eq_getElem hi]
        exact hv i hi hi'
    · exact h.elim
  | typeAssert x xT T ok => exact lift _ (q_assert (he x) h)
  | lookup T x i ok => exact lift _ (q_lookup hr (he x) (he i) h)
  | call c =>
    obtain ⟨callee, xs, ts⟩ := c
    cases callee with
    | value f => exact h.elim
    | invoke r m => exact h.elim
    | builtin b =>
      cases b <;> first | exact h.elim | skip
      · simp only [vq] at h
        split at h
        · rename_i x t hx ht
          obtain rfl : xs = #[x] := by cases xs; simp_all
          obtain rfl : ts = #[t] := by cases ts; simp_all
          obtain ⟨v, av, h1, h2, h3⟩ := q_lenS (P := P) (w := w) (ty := ty) hr (he x) h
          exact ⟨v, av, by simp [execOp, resolve, invoke, builtin, h1], h2, h3⟩
        · exact h.elim
      · simp only [vq] at h
        split at h
        · rename_i x y hx
          obtain rfl : xs = #[x, y] := by cases xs; simp_all
          split at h
          · rename_i k m k' n e1 e2
            have q1 := he x
            have q2 := he y
            rw [e1] at q1
            rw [e2] at q2
            generalize c1 : ρ x = v1 at q1
            generalize c2 : ρ y = v2 at q2
            cases q1; cases q2
            exact ⟨.int k (if m < n then n else m), _, by simp [execOp, resolve, invoke, builtin, c1, c2, Builtin.max_, Builtin.max2], h, .int _ _⟩
          · exact h.elim
        · exact h.elim
      · simp only [vq] at h
        split at h
        · rename_i x y hx
          obtain rfl : xs = #[x, y] := by cases xs; simp_all
          split at h
          · rename_i k m k' n e1 e2
            have q1 := he x
            have q2 := he y
            rw [e1] at q1
            rw [e2] at q2
            generalize c1 : ρ x = v1 at q1
            generalize c2 : ρ y = v2 at q2
            cases q1; cases q2
            exact ⟨.int k (if n < m then n else m), _, by simp [execOp, resolve, invoke, builtin, c1, c2, Builtin.min_, Builtin.min2], h, .int _ _⟩
          · exact h.elim
        · rename_i x y z hx
          obtain rfl : xs = #[x, y, z] := by cases xs; simp_all
          split at h
          · rename_i k m k' n k2 q e1 e2 e3
            have q1 := he x
            have q2 := he y
            have q3 := he z
            rw [e1] at q1
            rw [e2] at q2
            rw [e3] at q3
            generalize c1 : ρ x = v1 at q1
            generalize c2 : ρ y = v2 at q2
            generalize c3 : ρ z = v3 at q3
            cases q1; cases q2; cases q3
            exact ⟨.int k (if q < (if n < m then n else m) then q else (if n < m then n else m)), _, by simp [execOp, resolve, invoke, builtin, c1, c2, c3, Builtin.min_, Builtin.min2], h, .int _ _⟩
          · exact h.elim
        · exact h.elim
  | _ => exact h.elim
end
end Go.Gg
namespace Go.Gg
open Go.RowKit (Below)
def VRs (G : Ghost) (as : List AV) (vs : Array Value) : Prop := vs.size = as.length ∧ ∀ i (h : i < as.length) (h' : i < vs.size), VR G as[i] vs[i]
/-- A call at abstract arguments: in every concrete world that fits it returns, and what it leaves fits. -/
def ACalls (P : Program) (f : FuncId) (as : List AV) (S : St) (R : AV → St → Prop) : Prop :=
  ∀ (G : Ghost) (w : World) (vs : Array Value), Rel G S w → VRs G as vs →
    Calls P f vs w fun e w' => ∃ v av S' G', e = .returned v ∧ R av S' ∧ G.le G' ∧ Rel G' S' w' ∧ VR G' av v
theorem ACalls.mono {P : Program} {f : FuncId} {as : List AV} {S : St} {R R' : AV → St → Prop} (h : ACalls P f as S R) (hr : ∀ v S, R v S → R' v S) : ACalls P f as S R' :=
  fun G w vs h1 h2 => (h G w vs h1 h2).mono fun _ _ ⟨v, av, S', G', e, a, b, c, d⟩ => ⟨v, av, S', G', e, hr _ _ a, b, c, d⟩
/-- One operation. -/
def SOp (P : Program) (n : Nat) (o : Oper) (t : Env) (S : St) (K : AV → St → Prop) : Prop :=
  ∀ (G : Ghost) (a : Act) (w : World) (Kc : Act → World → Prop) (Q : Exit → Act → World → Prop), Rel G S w → TR n G t a →
    (∀ v av S' G' w', K av S' → G.le G' → Rel G' S' w' → VR G' av v → Kc (a.put o.dst v) w') → o.wp P a w Kc Q
theorem QOp.sop {P : Program} {n : Nat} {o : Oper} {t : Env} {S : St} {K : AV → St → Prop} (h : QOp P o (ev t) S (fun v => K v S)) : SOp P n o t S K := by
  intro G a w Kc Q hr ht hk
  obtain ⟨v, av, h1, h2, h3⟩ := h G a.eval w hr (fun x => ht.eval x)
  unfold Oper.wp
  rw [h1]
  exact hk v av S G w h2 (Ghost.le.refl G) hr h3
theorem sop_value {P : Program} {n : Nat} {o : Oper} {t : Env} {S : St} {K : AV → St → Prop} (s : (Operand → Value) → Sem Value) (hs : ∀ ρ, execOp ρ o = (do pure (.value (← s ρ))))
    (h : ∀ (G : Ghost) (ρ : Operand → Value) (w : World), Rel G S w → (∀ x, VR G (ev t x) (ρ x)) → ∃ v w' av S' G', (s ρ).run P w = .ok v w' ∧ K av S' ∧ G.le G' ∧ Rel G' S' w' ∧ VR G' av v) :
    SOp P n o t S K := by
  intro G a w Kc Q hr ht hk
  obtain ⟨v, w', av, S', G', h1, h2, h3, h4, h5⟩ := h G a.eval w hr (fun x => ht.eval x)
  unfold Oper.wp
  rw [hs, Sem.run_bind, h1]
  exact hk v av S' G' w' h2 h3 h4 h5
theorem sop_skip {P : Program} {n : Nat} {o : Oper} {t : Env} {S : St} {K : AV → St → Prop} (s : (Operand → Value) → Sem Unit) (hs : ∀ ρ, execOp ρ o = (do s ρ; pure .skip))
    (h : ∀ (G : Ghost) (ρ : Operand → Value) (w : World), Rel G S w → (∀ x, VR G (ev t x) (ρ x)) → ∃ w' S' G', (s ρ).run P w = .ok () w' ∧ K .junk S' ∧ G.le G' ∧ Rel G' S' w') :
    SOp P n o t S K := by
  intro G a w Kc Q hr ht hk
  obtain ⟨w', S', G', h1, h2, h3, h4⟩ := h G a.eval w hr (fun x => ht.eval x)
  unfold Oper.wp
  rw [hs, Sem.run_bind, h1]
  exact hk undef .junk S' G' w' h2 h3 h4 (.junk _)
/-! ### New objects -/
section
variable {P : Program} {G : Ghost} {S : St} {w : World}
theorem arr_at {G' : Ghost} {w' : World} {L : Loc} {es : List AV} {row : Array Value} (hrow : w'.heap[L.block]? = some (.cells row L.t (0, 0))) (hk : 0 < L.k) (hs : row.size = L.cap * L.k)
    (hl : es.length ≤ L.cap) (hm : L.cap ≤ maxLen) (hc : ∀ i (h : i < es.length), es[i].cells.length = L.k)
    (hv : ∀ i (h : i < es.length) j (h' : j < es[i].cells.length), ∃ x, row[i * L.k + j]? = some x ∧ VR G' es[i].cells[j] x) : ObjAt G' w' L (.arr L.k es) :=
  ⟨hk, rfl, hl, hm, hc, fun _ => ⟨row, hrow, hs, hv⟩⟩
/-- A new variable of type T that holds the value v. -/
theorem l_var {T : TypeId} {a : AV} {v : Value} (hr : Rel G S w) (hv : VR G a v) (hsol : a.solid = true) (hpos : 0 < a.cells.length) (r k g : Nat) (hg : G.loc r k g = none) :
    ∃ G', (newVar T v).run P w = .ok ⟨w.heap.size, 0, none⟩ (w.alloc (.cells v.cells T)) ∧ G.le G' ∧ Rel G' (S.set r k (.arr a.cells.length [a]) g) (w.alloc (.cells v.cells T)) ∧
      VR G' (.ptr r k g 0 0) (.pointer (some ⟨w.heap.size, 0, none⟩)) := by
  obtain ⟨c1, c2⟩ := hv.cells hsol
  obtain ⟨G', q1, q2, _, q4⟩ := hr.put (World.grownBy_alloc w (.cells v.cells T) none) r k g (.arr a.cells.length [a]) ⟨w.heap.size, 1, a.cells.length, T⟩
    (fun b hb => by cases hb) (fun _ => .inl (Nat.le_refl _)) (.inl hg)
    (fun G' hle => arr_at (L := ⟨w.heap.size, 1, a.cells.length, T⟩) (row := v.cells) (heap_alloc_new w _) hpos (by simpa using c1) (by simp) (by simp [maxLen])
      (fun i hi => by simp at hi; subst hi; rfl)
      (fun i hi j hj => by
        simp at hi; subst hi
        simp only [List.getElem_cons_zero, Nat.zero_mul, Nat.zero_add] at hj ⊢
        exact ⟨v.cells[j]'(by omega), by simp, (c2 j hj (by omega)).mono hle⟩))
  refine ⟨G', rfl, q1, q4, ?_⟩
  have := VR.ptr (G := G') r k g 0 0 _ q2
  simpa using this
theorem sop_alloc {n : Nat} {o : Oper} {t : Env} {T : TypeId} {K : AV → St → Prop} (ho : o.op = .alloc T) (r k : Nat) (hty : tyok P T = true)
    (h : ∀ g, K (.ptr r k g 0 0) (S.set r k (.arr (zav P T).cells.length [zav P T]) g)) : SOp P n o t S K := by
  refine sop_value (fun _ => Instr.alloc T true (.tuple #[])) (fun ρ => by simp only [execOp, ho]) fun G ρ w hr _ => ?_
  obtain ⟨g, hg⟩ := hr.fresh r k
  obtain ⟨i, z, hi, hz, hzs, hzv, hz0, hzsol⟩ := tyok_zero hty
  obtain ⟨h1, h2⟩ := run_zero (P := P) (G := G) (w := w) hty
  have hsol : (zav P T).solid = true := by unfold zav; rw [hzv]; exact hzsol
  have hpos : 0 < (zav P T).cells.length := by have := (h2.cells hsol).1; rw [hzv] at this; omega
  obtain ⟨G', q1, q2, q3, q4⟩ := l_var (P := P) (T := T) hr h2 hsol hpos r k g hg
  refine ⟨_, _, _, _, G', ?_, h g, q2, q3, q4⟩
  simp only [Instr.alloc, Sem.run_bind, h1, Result.andThen_ok, q1, Sem.run_pure]
theorem sop_box {n : Nat} {o : Oper} {t : Env} {T : TypeId} {x : Operand} {K : AV → St → Prop} (ho : o.op = .box T x) (r k : Nat) (hsol : (ev t x).solid = true) (hpos : 0 < (ev t x).cells.length)
    (h : ∀ g, K (.ptr r k g 0 0) (S.set r k (.arr (ev t x).cells.length [ev t x]) g)) : SOp P n o t S K := by
  refine sop_value (fun ρ => Instr.box T (ρ x)) (fun ρ => by simp only [execOp, ho]) fun G ρ w hr he => ?_
  obtain ⟨g, hg⟩ := hr.fresh r k
  obtain ⟨G', q1, q2, q3, q4⟩ := l_var (P := P) (T := T) hr (he x) hsol hpos r k g hg
  exact ⟨_, _, _, _, G', by simp only [Instr.box, Sem.run_bind, q1, Result.andThen_ok, Sem.run_pure], h g, q2, q3, q4⟩
/-! ### Maps -/
def vMakeMap (P : Program) (rg k : Nat) (T : TypeId) (hint : Option AV) (S : St) (K : AV → St → Prop) : Prop :=
  match td P T with
  | .map kt _ => match kshape P kt with
    | some sh => (match hint with | none => True | some (.int _ _) => True | _ => False) ∧ ∀ g, K (.map rg k g) (S.set rg k (.mp sh 0 (fun _ => none)) g)
    | none => False
  | _ => False
def vMapUpd (P : Program) (T : TypeId) (m i x : AV) (S : St) (K : AV → St → Prop) : Prop :=
  match m with
  | .map r k g => match S r k with
    | some (.mp sh n f, g') => match td P T, mapKey sh i with
      | .map kt _, some ns => (g' = g ∧ kshape P kt = some sh) ∧ K .junk (S.set r k (.mp sh (bif (f ns).isSome then n else n + 1) (fun q => if q = ns then some x else f q)) g)
      | _, _ => False
    | _ => False
  | _ => False
theorem run_makeMap {T kt et : TypeId} {hint : Option Value} (hu : P.underlying T = some (.map kt et)) (hh : ∀ v, hint = some v → ∃ k n, v = .int k n) : (Instr.makeMap T hint).run P w = .ok (.map (some w.heap.size)) (w.alloc (.map #[] 0)) := by
  cases hint with
  | none => rfl
  | some v =>
    obtain ⟨k, n, rfl⟩ := hh v rfl
    simp [Instr.makeMap, run_underlying hu, asInt, asIntOf, Result.andThen]
theorem sop_makeMap {n : Nat} {o : Oper} {t : Env} {T : TypeId} {hint : Option Operand} {K : AV → St → Prop} (ho : o.op = .makeMap T hint) (r k : Nat) (h : vMakeMap P r k T (hint.map (ev t)) S K) : SOp P n o t S K := by
  refine sop_value (fun ρ => Instr.makeMap T (hint.map ρ)) (fun ρ => by simp only [execOp, ho]) fun G ρ w hr he => ?_
  unfold vMakeMap at h
  split at h
  · rename_i kt et hd
    split at h
    · rename_i sh hk
      obtain ⟨hh, hK⟩ := h
      obtain ⟨g, hg⟩ := hr.fresh r k
      obtain ⟨G', q1, q2, _, q4⟩ := hr.put (World.grownBy_alloc w (.map #[] 0) none) r k g (.mp sh 0 (fun _ => none)) ⟨w.heap.size, 1, 0, 0⟩
        (fun b hb => by cases hb) (fun _ => .inl (Nat.le_refl _)) (.inl hg)
        (fun G' _ => ⟨by simp, #[], 0, heap_alloc_new w _, rfl, fun e he => by simp at he, fun ns v hv => by simp at hv, by simp⟩)
      refine ⟨_, _, _, _, G', run_makeMap (td_map hd) ?_, hK g, q1, q4, .map r k g _ q2⟩
      intro v hv
      cases hint with
      | none => cases hv
      | some y =>
        simp only [Option.map_some, Option.some.injEq] at hv hh
        subst hv
        have hy := he y
        cases hyy : ev t y <;> rw [hyy] at hh hy <;> first
          | exact hh.elim
          | (generalize ρ y = z at hy; cases hy; exact ⟨_, _, rfl⟩)
    · exact h.elim
  · exact h.elim
theorem pair_at {α : Type} {R : α → α → Prop} {l : List α} (h : l.Pairwise R) {i j : Nat} {a b : α} (hij : i < j) (hi : l[i]? = some a) (hj : l[j]? = some b) : R a b := by
  obtain ⟨h1, rfl⟩ := List.getElem?_eq_some_iff.1 hi
  obtain ⟨h2, rfl⟩ := List.getElem?_eq_some_iff.1 hj
  exact List.pairwise_iff_getElem.1 h i j h1 h2 hij
theorem sop_mapUpd {n : Nat} {o : Oper} {t : Env} {T : TypeId} {m i x : Operand} {K : AV → St → Prop} (ho : o.op = .mapUpdate T m i x ∨ o.op = .insert T m i x) (h : vMapUpd P T (ev t m) (ev t i) (ev t x) S K) : SOp P n o t S K := by
  refine sop_skip (fun ρ => Instr.mapUpdate T (ρ m) (ρ i) (ρ x)) (fun ρ => by rcases ho with ho | ho <;> simp only [execOp, ho]) fun G ρ w hr he => ?_
  have hm := he m
  have hi := he i
  have hx := he x
  generalize ρ m = vm at hm
  generalize ρ i = vi at hi
  generalize ρ x = vx at hx
  generalize ev t x = ax at hx h
  generalize ev t i = ai at hi h
  unfold vMapUpd at h
  cases hme : ev t m with
  | map r k g =>
    rw [hme] at hm h
    cases hm with
    | map _ _ _ L hL =>
    simp only at h
    split at h
    · rename_i sh n f g' hS
      split at h
      · rename_i kt et ns hd hmk
        obtain ⟨⟨rfl, hk⟩, hK⟩ := h
        obtain ⟨L', hL', hobj, _⟩ := hr.obj _ _ _ _ hS
        obtain rfl : L' = L := by rw [hL] at hL'; exact (Option.some.inj hL').symm
        obtain ⟨h0, ents, clock, h1, h2, h3, h4, h5⟩ := hobj
        have hkey := mapKey_mk hmk hi
        have hu := td_map hd
        have hlt : L'.block < w.heap.size := (Array.getElem?_eq_some_iff.1 h1).1
        have hgrow : ∀ ob : Obj, w.grownBy { w with heap := w.heap.setIfInBounds L'.block ob } (some L'.block) := fun ob =>
          ⟨rfl, rfl, rfl, by simp, fun q _ hne => (MapKept.heap_set (o' := ob) h1).2 q (fun hc => hne (by rw [hc]))⟩
        have hheld : Held G S r k L'.block := ⟨_, _, _, hS, hL, h0, rfl⟩
        have fin : ∀ (ents' : Array MapEntry) (clock' : Nat) (n' : Nat) (f' : List Int → Option AV), (Instr.mapUpdate T (.map (some L'.block)) vi vx).run P w = .ok () { w with heap := w.heap.setIfInBounds L'.block (.map ents' clock') } →
            K .junk (S.set r k (.mp sh n' f') g') → ents'.size = n' → (∀ e ∈ ents'.toList, ∃ ns v, mkKey sh ns = some e.key ∧ f' ns = some v ∧ VR G v e.val) → (∀ ns v, f' ns = some v → ∃ e ∈ ents'.toList, mkKey sh ns = some e.key) →
            (ents'.toList.map (·.key)).Pairwise (fun a b => ∀ ns ns', mkKey sh ns = some a → mkKey sh ns' = some b → ns ≠ ns') →
            ∃ w' S' G', (Instr.mapUpdate T (.map (some L'.block)) vi vx).run P w = .ok () w' ∧ K .junk S' ∧ G.le G' ∧ Rel G' S' w' := by
          intro ents' clock' n' f' hrun hK' a1 a2 a3 a4
          obtain ⟨G', q1, _, _, q4⟩ := hr.put (hgrow (.map ents' clock')) r k g' (.mp sh n' f') L' (fun b hb => by cases hb; exact hheld) (fun _ => .inr hheld) (.inr hL)
            (fun G' hle => ⟨h0, ents', clock', (MapKept.heap_set h1).1, a1, fun e he => let ⟨ns, v, b1, b2, b3⟩ := a2 e he; ⟨ns, v, b1, b2, b3.mono hle⟩, a3, a4⟩)
          exact ⟨_, _, G', hrun, hK', q1, q4⟩
        rcases key_find hk hkey w ents.toList (fun e he => let ⟨ns, _, a, _, _⟩ := h3 e he; ⟨ns, a⟩) with ⟨f1, f2⟩ | ⟨j, e, f1, f2, f3⟩
        · have hn : f ns = none := by
            cases hf : f ns with
            | none => rfl
            | some z =>
              obtain ⟨e, he, hke⟩ := h4 ns z hf
              exact absurd (Option.some.inj (hke.symm.trans hkey)) (f2 e he)
          have hne : ∀ e ∈ ents.toList, ∀ ns', mkKey sh ns' = some e.key → ns' ≠ ns := fun e he ns' hk' hc => f2 e he (by rw [hc] at hk'; exact Option.some.inj (hk'.symm.trans hkey))
          rw [hn] at hK
          refine fin (ents.push { key := vi, val := vx, born := clock }) (clock + 1) (n + 1) _ ?_ hK (by simp [h2]) ?_ ?_ ?_
          · simp [Instr.mapUpdate, run_underlying hu, MapKept.run_getObj_map h1, key_check hk hkey, f1, MapKept.run_setObj_map _ h1, Result.andThen]
          · intro e he
            simp only [Array.toList_push, List.mem_append, List.mem_singleton] at he
            rcases he with he | rfl
            · obtain ⟨ns', v, b1, b2, b3⟩ := h3 e he
              exact ⟨ns', v, b1, by rw [if_neg (hne e he ns' b1)]; exact b2, b3⟩
            · exact ⟨ns, ax, hkey, by rw [if_pos rfl], hx⟩
          · intro ns' v hv
            by_cases hc : ns' = ns
            · subst hc; exact ⟨{ key := vi, val := vx, born := clock }, by simp, hkey⟩
            · rw [if_neg hc] at hv
              obtain ⟨e, he, hke⟩ := h4 ns' v hv
              exact ⟨e, by simp at he ⊢; exact .inl he, hke⟩
          · simp only [Array.toList_push, List.map_append, List.map_cons, List.map_nil]
            refine List.pairwise_append.2 ⟨h5, by simp, fun a ha b hb => ?_⟩
            obtain rfl : b = vi := by simpa using hb
            obtain ⟨e, he, rfl⟩ := List.mem_map.1 ha
            intro ns1 ns2 k1 k2
            obtain rfl := mkKey_inj k2 hkey
            exact hne e he ns1 k1
        · have hj : ents[j]? = some e := by simpa using f2
          have he : e ∈ ents.toList := List.mem_of_getElem? f2
          obtain ⟨ns1, z, b1, b2, b3⟩ := h3 e he
          obtain rfl : ns1 = ns := mkKey_inj b1 (by rw [f3]; exact hkey)
          rw [b2] at hK
          have hkeys : ((ents.modify j fun e => { e with key := vi, val := vx }).toList.map (·.key)) = ents.toList.map (·.key) :=
            MapKept.modify_keys j _ (fun e' he' => by rw [hj] at he'; cases he'; exact f3.symm)
          have hmem : ∀ y ∈ (ents.modify j fun e => { e with key := vi, val := vx }).toList, (∃ q, q ≠ j ∧ ents.toList[q]? = some y) ∨ y = { e with key := vi, val := vx } := by
            intro y hy
            rw [Array.mem_toList_iff, Array.mem_iff_getElem?] at hy
            obtain ⟨q, hq⟩ := hy
            rw [Array.getElem?_modify] at hq
            split at hq
            · rename_i hjq
              subst hjq
              rw [hj] at hq
              exact .inr (Option.some.inj hq).symm
            · rename_i hjq
              exact .inl ⟨q, fun hc => hjq hc.symm, by simpa using hq⟩
          refine fin (ents.modify j fun e => { e with key := vi, val := vx }) clock n _ ?_ hK (by simp [h2]) ?_ ?_ (by rw [hkeys]; exact h5)
          · simp [Instr.mapUpdate, run_underlying hu, MapKept.run_getObj_map h1, key_check hk hkey, f1, hj, f3, key_stays hkey, MapKept.run_setObj_map _ h1, Result.andThen]
          · intro y hy
            rcases hmem y hy with ⟨q, hqj, hq⟩ | rfl
            · obtain ⟨ns', v, c1, c2, c3⟩ := h3 y (List.mem_of_getElem? hq)
              refine ⟨ns', v, c1, ?_, c3⟩
              rw [if_neg]
              · exact c2
              · intro hc
                subst hc
                have k1 : (ents.toList.map (·.key))[q]? = some y.key := by rw [List.getElem?_map, hq]; rfl
                have k2 : (ents.toList.map (·.key))[j]? = some e.key := by rw [List.getElem?_map, f2]; rfl
                rcases Nat.lt_or_gt_of_ne hqj with hlt' | hlt'
                · exact pair_at h5 hlt' k1 k2 _ _ c1 b1 rfl
                · exact pair_at h5 hlt' k2 k1 _ _ b1 c1 rfl
            · exact ⟨_, ax, hkey, by rw [if_pos rfl], hx⟩
          · intro ns' v hv
            by_cases hc : ns' = ns1
            · subst hc
              refine ⟨{ e with key := vi, val := vx }, ?_, hkey⟩
              rw [Array.mem_toList_iff, Array.mem_iff_getElem?]
              exact ⟨j, by rw [Array.getElem?_modify, if_pos rfl, hj]; rfl⟩
            · rw [if_neg hc] at hv
              obtain ⟨y, hy, hky⟩ := h4 ns' v hv
              have : y.key ∈ (ents.modify j fun e => { e with key := vi, val := vx }).toList.map (·.key) := by rw [hkeys]; exact List.mem_map.2 ⟨y, hy, rfl⟩
              obtain ⟨y', hy', hk'⟩ := List.mem_map.1 this
              exact ⟨y', hy', by rw [hk']; exact hky⟩
      · exact h.elim
    · exact h.elim
  | _ => rw [hme] at h; exact h.elim
/-! ### Stores -/
def vStore (P : Program) (T : TypeId) (a x : AV) (S : St) (K : AV → St → Prop) : Prop :=
  match a with
  | .ptr r k g i off => match S r k with
    | some (.arr kk es, g') => (g' = g ∧ i < es.length ∧ 0 < sz P T ∧ x.cells.length = sz P T ∧ off + sz P T ≤ kk ∧ allOne x.cells = true) ∧
        K .junk (S.set r k (.arr kk (es.set i (stv (es.getD i .junk) off x))) g)
    | _ => False
  | _ => False
theorem allOne_solid {x : AV} (h : allOne x.cells = true) : x.solid = true := by
  cases x <;> simp_all [allOne, AV.cells, AV.solid, AV.one]
theorem stv_get {v x : AV} {off kk : Nat} (hv : v.cells.length = kk) (hl : off + x.cells.length ≤ kk) (hx : 0 < x.cells.length) :
    (stv v off x).cells.length = kk ∧ ∀ j, j < kk → (stv v off x).cells[j]? = if off ≤ j ∧ j < off + x.cells.length then x.cells[j - off]? else v.cells[j]? := by
  have key : ∀ l : List AV, l.length = kk → (l.take off ++ x.cells ++ l.drop (off + x.cells.length)).length = kk ∧ ∀ j, j < kk →
      (l.take off ++ x.cells ++ l.drop (off + x.cells.length))[j]? = if off ≤ j ∧ j < off + x.cells.length then x.cells[j - off]? else l[j]? := by
    intro l hl'
    have hlt : (l.take off).length = off := by simp; omega
    refine ⟨by simp; omega, fun j hj => ?_⟩
    split
    · rename_i hc
      rw [List.append_assoc, List.getElem?_append_right (by omega), hlt, List.getElem?_append_left (by omega)]
    · rename_i hc
      by_cases h : j < off
      · rw [List.append_assoc, List.getElem?_append_left (by omega), List.getElem?_take, if_pos h]
      · rw [List.append_assoc, List.getElem?_append_right (by omega), hlt, List.getElem?_append_right (by omega), List.getElem?_drop]
        congr 1; omega
  cases v with
  | agg l => exact key l hv
  | _ =>
    have h1 : kk = 1 := by rw [← hv]; rfl
    subst h1
    have ho : off = 0 := by omega
    subst ho
    exact ⟨by show x.cells.length = 1; omega, fun j hj => by rw [if_pos (by omega)]; rfl⟩
theorem stv_cells {v x : AV} {off kk : Nat} (hv : v.cells.length = kk) (hl : off + x.cells.length ≤ kk) (hx : 0 < x.cells.length) :
    (stv v off x).cells.length = kk ∧ ∀ j, (h : j < kk) → (h1 : j < (stv v off x).cells.length) →
      (∃ (h2 : off ≤ j ∧ j - off < x.cells.length), (stv v off x).cells[j] = x.cells[j - off]'h2.2) ∨ (¬ (off ≤ j ∧ j < off + x.cells.length) ∧ ∃ h3 : j < v.cells.length, (stv v off x).cells[j] = v.cells[j]) := by
  obtain ⟨a1, a2⟩ := stv_get hv hl hx
  refine ⟨a1, fun j hj h1 => ?_⟩
  have := a2 j hj
  rw [List.getElem?_eq_getElem h1] at this
  split at this
  · rename_i hc
    have h2 : j - off < x.cells.length := by omega
    rw [List.getElem?_eq_getElem h2] at this
    exact .inl ⟨⟨hc.1, h2⟩, Option.some.inj this⟩
  · rename_i hc
    have h2 : j < v.cells.length := by omega
    rw [List.getElem?_eq_getElem h2] at this
    exact .inr ⟨hc, h2, Option.some.inj this⟩
theorem run_storeVar {T : TypeId} {b x : Nat} {v : Value} {row : Array Value} {et : TypeId} (hrow : w.heap[b]? = some (.cells row et (0, 0))) (hsz : 0 < sz P T) (hs : v.cells.size = sz P T)
    (hl : x + v.cells.size ≤ row.size) (h1 : ∀ u ∈ v.cells.toList, u.oneCell' = true) :
    (storeVar T ⟨b, x, none⟩ v).run P w = .ok () (w.setRow b (row.toList.take x ++ v.cells.toList ++ row.toList.drop (x + v.cells.toList.length)).toArray) := by
  have hst := run_storeCells_at P b x et v.cells.toList 0 row w hrow (by simpa using hl) h1
  simp only [Nat.add_zero] at hst
  simp [storeVar, run_sizeOf hsz, hs, hst]
theorem sop_store {n : Nat} {o : Oper} {t : Env} {T : TypeId} {a x : Operand} {K : AV → St → Prop} (ho : o.op = .store T a x) (h : vStore P T (ev t a) (ev t x) S K) : SOp P n o t S K := by
  refine sop_skip (fun ρ => Instr.storeAt T (ρ a) (ρ x)) (fun ρ => by simp only [execOp, ho]) fun G ρ w hr he => ?_
  have ha := he a
  have hx := he x
  generalize ρ a = va at ha
  generalize ρ x = vx at hx
  generalize ev t x = ax at hx h
  unfold vStore at h
  cases hae : ev t a with
  | ptr r k g i off =>
    rw [hae] at ha h
    cases ha with
    | ptr _ _ _ _ _ L hL =>
    simp only at h
    split at h
    · rename_i kk es g' hS
      obtain ⟨⟨rfl, hi, hsz, hxs, hoff, hone⟩, hK⟩ := h
      obtain ⟨L', hL', hobj, _⟩ := hr.obj _ _ _ _ hS
      obtain rfl : L' = L := by rw [hL] at hL'; exact (Option.some.inj hL').symm
      obtain ⟨hk0, hkk, hcap, hm, hcl, hrows⟩ := hobj
      obtain ⟨row, hrow, hrs, hel⟩ := hrows (by omega)
      obtain ⟨c1, c2⟩ := hx.cells (allOne_solid hone)
      have hxc : vx.cells.size = sz P T := by omega
      have hfl : i * L'.k + off + sz P T ≤ row.size := by
        rw [hrs, hkk]
        have : (i + 1) * kk ≤ L'.cap * kk := Nat.mul_le_mul_right _ (by omega)
        rw [Nat.succ_mul] at this
        omega
      have hones : ∀ u ∈ vx.cells.toList, u.oneCell' = true := by
        intro u hu
        obtain ⟨j, hj, rfl⟩ := List.mem_iff_getElem.1 hu
        simp only [Array.length_toList] at hj
        rw [Array.getElem_toList]
        have hj' : j < ax.cells.length := by omega
        refine (c2 j hj' hj).oneCell ?_
        exact List.all_eq_true.1 hone _ (List.getElem_mem hj')
      have hrun := run_storeVar (P := P) (w := w) (T := T) (x := i * L'.k + off) hrow hsz hxc (by omega) hones
      have hset := setRow_heap w L'.block row (row.toList.take (i * L'.k + off) ++ vx.cells.toList ++ row.toList.drop (i * L'.k + off + vx.cells.toList.length)).toArray L'.t (0, 0) hrow
      have hge : es.getD i .junk = es[i] := by rw [List.getD_eq_getElem?_getD, List.getElem?_eq_getElem hi]; rfl
      rw [hge] at hK
      obtain ⟨s1, s2⟩ := stv_cells (v := es[i]) (x := ax) (off := off) (hcl i hi) (by omega) (by omega)
      have hrow' : ∀ p, p < row.size → (row.toList.take (i * L'.k + off) ++ vx.cells.toList ++ row.toList.drop (i * L'.k + off + vx.cells.toList.length))[p]? =
          if h : i * L'.k + off ≤ p ∧ p < i * L'.k + off + vx.cells.size then vx.cells[p - (i * L'.k + off)]? else row[p]? := by
        intro p hp
        have hlt : (row.toList.take (i * L'.k + off)).length = i * L'.k + off := by simp; omega
        split
        · rename_i hc
          rw [List.append_assoc, List.getElem?_append_right (by omega), hlt, List.getElem?_append_left (by simp; omega)]
          simp
        · rename_i hc
          by_cases hlt' : p < i * L'.k + off
          · rw [List.append_assoc, List.getElem?_append_left (by omega), List.getElem?_take, if_pos hlt']
            simp
          · rw [List.append_assoc, List.getElem?_append_right (by omega), hlt, List.getElem?_append_right (by simp; omega), List.getElem?_drop]
            simp only [Array.length_toList]
            rw [show i * L'.k + off + vx.cells.size + (p - (i * L'.k + off) - vx.cells.size) = p from by omega]
            simp
      obtain ⟨G', q1, q2, _, q4⟩ := hr.put (w' := w.setRow L'.block _) (row := some L'.block) ⟨rfl, rfl, rfl, by simp, fun b _ hb => setRow_other w L'.block b _ (fun e => hb (by rw [e]))⟩ r k g'
        (.arr kk (es.set i (stv es[i] off ax))) L' (fun b hb => by injection hb with hb; subst hb; exact ⟨_, _, _, hS, hL, by omega, rfl⟩) (fun hc => .inr ⟨_, _, _, hS, hL, hc, rfl⟩) (.inr hL)
        (fun G' hle => by
          rw [← hkk]
          refine arr_at (row := (row.toList.take (i * L'.k + off) ++ vx.cells.toList ++ row.toList.drop (i * L'.k + off + vx.cells.toList.length)).toArray) hset (by omega) ?_ (by simpa using hcap) hm ?_ ?_
          · have hrs' : row.size = L'.cap * L'.k := by rw [hkk]; exact hrs
            simp only [List.size_toArray, List.length_append, List.length_take, List.length_drop, Array.length_toList]
            rw [← hrs']
            omega
          · intro i' hi'
            simp only [List.length_set] at hi'
            rw [List.getElem_set]
            split
            · rw [s1, hkk]
            · rw [hcl i' hi', hkk]
          · intro i' hi' j hj
            simp only [List.length_set] at hi'
            have hjk : j < kk := by
              rw [List.getElem_set] at hj
              split at hj
              · omega
              · rw [hcl i' hi'] at hj; exact hj
            have hp : i' * L'.k + j < row.size := by rw [hrs, hkk]; exact flat_lt (by omega) hjk
            have hq := hrow' (i' * L'.k + j) hp
            simp only [List.getElem?_toArray]
            rw [hq]
            by_cases hii : i = i'
            · subst hii
              simp only [List.getElem_set_self] at hj ⊢
              rcases s2 j hjk hj with ⟨h2, e⟩ | ⟨h2, h3, e⟩
              · rw [dif_pos (by omega), e]
                rw [show i * L'.k + j - (i * L'.k + off) = j - off from by omega]
                exact ⟨vx.cells[j - off]'(by omega), by simp, (c2 _ h2.2 (by omega)).mono hle⟩
              · rw [dif_neg (by omega), e]
                obtain ⟨y, y1, y2⟩ := hel i hi j h3
                rw [hkk]
                exact ⟨y, y1, y2.mono hle⟩
            · have hne : ¬ (i * L'.k + off ≤ i' * L'.k + j ∧ i' * L'.k + j < i * L'.k + off + vx.cells.size) := by
                rintro ⟨b1, b2⟩
                have h3 : i' * L'.k + j = i * L'.k + (i' * L'.k + j - i * L'.k) := by omega
                have h4 : i' * L'.k + j - i * L'.k < L'.k := by omega
                exact hii (flat_eq (by omega) h4 h3).1.symm
              rw [dif_neg hne]
              simp only [List.getElem_set_ne hii] at hj ⊢
              obtain ⟨y, y1, y2⟩ := hel i' hi' j hj
              rw [hkk]
              exact ⟨y, y1, y2.mono hle⟩)
      refine ⟨_, _, G', ?_, hK, q1, q4⟩
      simp only [Instr.storeAt, Instr.sureAddr, Sem.run_bind, Sem.run_pure, Result.andThen_ok]
      exact hrun
    · exact h.elim
  | _ => rw [hae] at h; exact h.elim
end
end Go.Gg
namespace Go.Gg
open Go.RowKit (Below)
section
variable {P : Program} {G : Ghost} {S : St} {w : World}
theorem one_at {T : TypeId} {i : TypeInfo} {z : Value} (hty : tyok P T = true) (hi : P.info? T = some i) (hz : i.zero = some z) : 0 < i.size ∧ z.cells.size = i.size ∧
    (zav P T).cells.length = i.size ∧ ∀ j (h : j < (zav P T).cells.length) (h' : j < z.cells.size), VR G (zav P T).cells[j] z.cells[j] := by
  obtain ⟨i', z', hi', hz', hzs, hzv, hz0, hzsol⟩ := tyok_zero hty
  rw [hi] at hi'; cases hi'
  rw [hz] at hz'; cases hz'
  have hV : VR G (zav P T) (zval P T) := VR.ofConst G _
  have hsol : (zav P T).solid = true := by unfold zav; rw [hzv]; exact hzsol
  rw [hzv] at hV
  obtain ⟨c1, c2⟩ := hV.cells hsol
  exact ⟨hz0, hzs, by omega, c2⟩
def vMake (P : Program) (rg k : Nat) (T : TypeId) (l c : AV) (S : St) (K : AV → St → Prop) : Prop :=
  match td P T with
  | .slice e => match l, c with
    | .int _ n, .int _ m => (0 ≤ n ∧ n ≤ m ∧ (bts P e : Int) * m ≤ 281474976710656 ∧ m ≤ 9223372036854775807) ∧ tyok P e = true ∧
        ∀ g, K (.sl (zav P e).cells.length rg k g 0 n.toNat) (S.set rg k (.arr (zav P e).cells.length (List.replicate n.toNat (zav P e))) g)
    | _, _ => False
  | _ => False
theorem sop_make {n : Nat} {o : Oper} {t : Env} {T : TypeId} {l c : Operand} {K : AV → St → Prop} (ho : o.op = .makeSlice T l c) (rg k : Nat) (h : vMake P rg k T (ev t l) (ev t c) S K) : SOp P n o t S K := by
  refine sop_value (fun ρ => Instr.makeSlice T (ρ l) (ρ c)) (fun ρ => by simp only [execOp, ho]) fun G ρ w hr he => ?_
  unfold vMake at h
  split at h
  · rename_i e hd
    have hl := he l
    have hc := he c
    generalize ρ l = vl at hl
    generalize ρ c = vc at hc
    split at h
    · rename_i kl nn kc mm e1 e2
      rw [e1] at hl
      rw [e2] at hc
      cases hl; cases hc
      obtain ⟨⟨h0, h1, h2, h3⟩, hty, hK⟩ := h
      obtain ⟨i, z, hi, hz, _⟩ := tyok_zero hty
      obtain ⟨b1, b2, b3, b4⟩ := one_at (P := P) (G := G) hty hi hz
      have hby : (i.bytes : Int) * mm ≤ 281474976710656 := by simpa [bts, hi] using h2
      have hrun := run_make (P := P) w T e i z (td_slice hd) hi hz kl kc nn mm h0 h1 hby h3
      obtain ⟨g, hg⟩ := hr.fresh rg k
      have hel : ∀ p j, j < i.size → p * i.size + j < (madeCells z.cells (mm.toNat * i.size)).size → (madeCells z.cells (mm.toNat * i.size))[p * i.size + j]? = z.cells[j]? := by
        intro p j hj hp
        have hp' : p * i.size + j < mm.toNat * i.size := by simpa [madeCells] using hp
        have hm : (p * i.size + j) % i.size = j := by rw [Nat.mul_comm, Nat.mul_add_mod, Nat.mod_eq_of_lt hj]
        have hjz : j < z.cells.size := by omega
        simp only [madeCells, Array.getElem?_map, Array.getElem?_range, hp', if_true, Option.map_some, b2, hm]
        rw [Array.getElem?_eq_getElem hjz]
        simp [hjz]
      obtain ⟨G', q1, q2, _, q4⟩ := hr.put (World.grownBy_alloc w (.cells (madeCells z.cells (mm.toNat * i.size)) e) none) rg k g (.arr (zav P e).cells.length (List.replicate nn.toNat (zav P e)))
        ⟨w.heap.size, mm.toNat, (zav P e).cells.length, e⟩ (fun b hb => by cases hb) (fun _ => .inl (Nat.le_refl _)) (.inl hg)
        (fun G' hle => arr_at (L := ⟨w.heap.size, mm.toNat, (zav P e).cells.length, e⟩) (row := madeCells z.cells (mm.toNat * i.size)) (heap_alloc_new w _) (by simp only; omega) (by simp [madeCells, b3])
          (by simp; omega) (by simp [maxLen]; omega) (fun i hi => by simp)
          (fun p hp j hj => by
            simp only [List.length_replicate] at hp
            simp only [List.getElem_replicate] at hj ⊢
            have hjz : j < z.cells.size := by omega
            refine ⟨z.cells[j], ?_, (b4 j hj hjz).mono hle⟩
            rw [b3, hel p j (by omega)]
            · simp [hjz]
            · simp only [madeCells, Array.size_map, Array.size_range]
              exact flat_lt (by omega) (by omega)))
      refine ⟨_, _, _, _, G', hrun, hK g, q1, q4, ?_⟩
      have := VR.sl (G := G') (zav P e).cells.length rg k g 0 nn.toNat (some ⟨w.heap.size, 0, none⟩) _ q2 rfl (by simp; omega) (by simp [maxLen]; omega) (fun _ => by simp)
      simpa using this
    · exact h.elim
  · exact h.elim
/-! ### Slice literals -/
theorem fill_rows (k : Nat) : ∀ (vs : List Value) (s : Nat) (cells : Array Value), (∀ v ∈ vs, v.cells.size = k) → (s + vs.length) * k ≤ cells.size →
    ∃ ys, Instr.fill (fun i => some (i * k, k)) cells ((vs.zipIdx s).map fun p => (p.2, p.1)) = some ys ∧ ys.size = cells.size ∧
      (∀ i (h : i < vs.length) j, j < k → ys[(s + i) * k + j]? = vs[i].cells[j]?) ∧ (∀ p, p < s * k → ys[p]? = cells[p]?)
  | [], s, cells, _, _ => ⟨cells, rfl, rfl, fun i h => by simp at h, fun _ _ => rfl⟩
  | v :: vs, s, cells, hk, hl => by
    have hv := hk v (by simp)
    have hl' : (s + 1 + vs.length) * k ≤ cells.size := by simpa [Nat.add_assoc, Nat.add_comm 1] using hl
    have hsk : (s + 1) * k ≤ cells.size := Nat.le_trans (Nat.mul_le_mul_right _ (by omega)) hl'
    have hsk' : s * k + k ≤ cells.size := by rw [Nat.succ_mul] at hsk; exact hsk
    have hf := foldl_set (s * k) v.cells.toList 0 cells
    have he : (v.cells.zipIdx.foldl (fun cs (p : Value × Nat) => cs.setIfInBounds (s * k + p.2) p.1) cells) = (v.cells.toList.zipIdx 0).foldl (fun cs (p : Value × Nat) => cs.setIfInBounds (s * k + p.2) p.1) cells := by
      rw [← Array.foldl_toList, Array.toList_zipIdx]
    obtain ⟨ys, y1, y2, y3, y4⟩ := fill_rows k vs (s + 1) _ (fun u hu => hk u (by simp [hu])) (by rw [hf.1]; exact hl')
    refine ⟨ys, ?_, by rw [y2, hf.1], fun i hi j hj => ?_, fun p hp => ?_⟩
    · simp only [List.zipIdx_cons, List.map_cons, Instr.fill]
      rw [if_neg (by simp; omega), he]
      exact y1
    · cases i with
      | zero =>
        simp only [Nat.add_zero, List.getElem_cons_zero]
        rw [y4 _ (by rw [Nat.succ_mul]; omega), hf.2 _ (by omega), dif_pos (by simp; omega)]
        simp only [Nat.add_zero]
        have : j < v.cells.size := by omega
        rw [Array.getElem?_eq_getElem this]
        congr 1
        simp
      | succ i =>
        simp only [List.length_cons] at hi
        rw [show s + (i + 1) = s + 1 + i from by omega, y3 i (by omega) j hj]
        simp
    · rw [y4 p (by rw [Nat.succ_mul]; omega), hf.2 _ (by omega), dif_neg (by simp; omega)]
def vBuildSlice (P : Program) (rg k : Nat) (T : TypeId) (len : Nat) (idx : List Nat) (es : List AV) (S : St) (K : AV → St → Prop) : Prop :=
  match td P T with
  | .slice e => ((idx == List.range len) = true ∧ es.length = len ∧ tyok P e = true ∧ len * (zav P e).cells.length ≤ 16777216 ∧ (es.all fun x => x.solid && (x.cells.length == (zav P e).cells.length)) = true) ∧
      ∀ g, K (.sl (zav P e).cells.length rg k g 0 len) (S.set rg k (.arr (zav P e).cells.length es) g)
  | _ => False
theorem sop_buildSlice {n : Nat} {o : Oper} {t : Env} {T : TypeId} {len : Nat} {parts : Array (Nat × Operand)} {K : AV → St → Prop} (ho : o.op = .buildSlice T len parts) (rg k : Nat)
    (h : vBuildSlice P rg k T len (parts.toList.map (·.1)) (parts.toList.map fun p => ev t p.2) S K) : SOp P n o t S K := by
  refine sop_value (fun ρ => Instr.buildSlice T len (parts.map fun (i, x) => (i, ρ x))) (fun ρ => by simp only [execOp, ho]) fun G ρ w hr he => ?_
  unfold vBuildSlice at h
  split at h
  · rename_i e hd
    obtain ⟨⟨hidx, hlen, hty, hsmall, hall⟩, hK⟩ := h
    obtain ⟨i, z, hi, hz, _, hzv, _⟩ := tyok_zero hty
    obtain ⟨b1, b2, b3, b4⟩ := one_at (P := P) (G := G) hty hi hz
    have hlen' : parts.toList.length = len := by simpa using hlen
    have hpl : parts.toList.map (fun p => (p.1, ρ p.2)) = ((parts.toList.map fun p => ρ p.2).zipIdx 0).map fun p => (p.2, p.1) := by
      have h1 : parts.toList.map (·.1) = List.range len := by simpa using hidx
      apply List.ext_getElem
      · simp
      · intro j h2 h3
        have h2' : j < parts.toList.length := by simpa using h2
        have h4 : (parts.toList.map (·.1))[j]'(by simpa using h2) = (List.range len)[j]'(by simp only [List.length_range]; omega) := by simp only [h1]
        simp at h4 ⊢
        exact h4
    have hV : ∀ j (h : j < parts.toList.length), VR G (ev t parts.toList[j].2) (ρ parts.toList[j].2) ∧ (ρ parts.toList[j].2).cells.size = i.size ∧ (ev t parts.toList[j].2).solid = true ∧ (ev t parts.toList[j].2).cells.length = i.size := by
      intro j hj
      have h1 := List.all_eq_true.1 hall (ev t parts.toList[j].2) (List.mem_map.2 ⟨_, List.getElem_mem hj, rfl⟩)
      simp only [Bool.and_eq_true, beq_iff_eq] at h1
      have h2 := he parts.toList[j].2
      have h3 := (h2.cells h1.1).1
      exact ⟨h2, by omega, h1.1, by omega⟩
    have hrow0 : ∀ (zc : Array Value), zc.size = i.size → ((Array.range (len * i.size)).map (zc[· % zc.size]!)).size = len * i.size := by intro zc _; simp
    obtain ⟨ys, y1, y2, y3, _⟩ := fill_rows i.size (parts.toList.map fun p => ρ p.2) 0 ((Array.range (len * i.size)).map (z.cells[· % z.cells.size]!))
      (fun v hv => by
        obtain ⟨p, hp, rfl⟩ := List.mem_map.1 hv
        obtain ⟨j, hj, rfl⟩ := List.mem_iff_getElem.1 hp
        exact (hV j hj).2.1) (by simp [hlen'])
    have hrun : (Instr.buildSlice T len (parts.map fun (i, x) => (i, ρ x))).run P w = .ok (.slice (some ⟨w.heap.size, 0, none⟩) len len) (w.alloc (.cells ys e)) := by
      have hsm : ¬ (len * i.size > 2 ^ 24) := by rw [← b3]; omega
      have hml : (parts.map fun (i, x) => (i, ρ x)).toList = parts.toList.map (fun p => (p.1, ρ p.2)) := by simp
      by_cases hl0 : len * i.size = 0
      · have hl1 : len = 0 := by
          rcases Nat.mul_eq_zero.1 hl0 with h | h
          · exact h
          · omega
        subst hl1
        have hpe : parts = #[] := by
          apply Array.ext'; simpa using hlen'
        subst hpe
        have hys : ys = #[] := by
          apply Array.eq_empty_of_size_eq_zero; rw [y2]; simp
        subst hys
        simp [Instr.buildSlice, run_underlying (td_slice hd), sizeOf, typeInfo, hi, Instr.fill, newRow, Array.range_zero']
      · simp only [Instr.buildSlice, Sem.run_bind, run_underlying (td_slice hd), Result.andThen_ok]
        simp only [sizeOf, typeInfo, Sem.run_bind, run_program, Result.andThen_ok, hi, Sem.run_pure, if_neg hsm, if_neg hl0, zeroValue, hz, hml, hpl]
        simp [y1, newRow]
    obtain ⟨g, hg⟩ := hr.fresh rg k
    have hget : ∀ j (h : j < parts.toList.length), (parts.toList.map fun p => ev t p.2)[j]'(by simpa using h) = ev t parts.toList[j].2 := fun j h => by simp
    obtain ⟨G', q1, q2, _, q4⟩ := hr.put (World.grownBy_alloc w (.cells ys e) none) rg k g (.arr (zav P e).cells.length (parts.toList.map fun p => ev t p.2))
      ⟨w.heap.size, len, (zav P e).cells.length, e⟩ (fun b hb => by cases hb) (fun _ => .inl (Nat.le_refl _)) (.inl hg)
      (fun G' hle => arr_at (L := ⟨w.heap.size, len, (zav P e).cells.length, e⟩) (row := ys) (heap_alloc_new w _) (by simp only; omega) (by simp only [y2, b3]; simp) (by simp only; omega)
        (by
          have : len ≤ len * (zav P e).cells.length := Nat.le_mul_of_pos_right _ (by omega)
          simp only [maxLen]; omega)
        (fun p hp => by
          have hp' : p < parts.toList.length := by simpa using hp
          rw [hget p hp', (hV p hp').2.2.2, b3])
        (fun p hp j hj => by
          have hp' : p < parts.toList.length := by simpa using hp
          simp only [hget p hp'] at hj ⊢
          have h1 := hV p hp'
          have hj' : j < (ρ parts.toList[p].2).cells.size := by omega
          refine ⟨(ρ parts.toList[p].2).cells[j], ?_, ((h1.1.cells h1.2.2.1).2 j hj hj').mono hle⟩
          have := y3 p (by simpa using hp') j (by omega)
          simp only [Nat.zero_add, List.getElem_map] at this
          rw [b3, this]
          simp))
    refine ⟨_, _, _, _, G', hrun, hK g, q1, q4, ?_⟩
    have := VR.sl (G := G') (zav P e).cells.length rg k g 0 len (some ⟨w.heap.size, 0, none⟩) _ q2 rfl (by simp)
      (by
        have : len ≤ len * (zav P e).cells.length := Nat.le_mul_of_pos_right _ (by omega)
        simp only [maxLen]; omega) (fun _ => by simp)
    simpa using this
  · exact h.elim
end
end Go.Gg
namespace Go.Gg
open Go.RowKit (Below)
/-- The elements that a slice shows. -/
def view (S : St) : AV → Option (List AV)
  | .nil => some []
  | .list es => some es
  | .sl kk r k g off len => match S r k with
    | some (.arr kk' es, g') => if g' = g ∧ kk' = kk ∧ off + len ≤ es.length then some ((es.drop off).take len) else none
    | _ => none
  | _ => none
section
variable {P : Program} {G : Ghost} {S : St} {w : World}
/-- The cells behind a slice, in every world with the same heap. -/
theorem view_cells {a : AV} {v : Value} {es : List AV} {kk : Nat} (hr : Rel G S w) (hv : VR G a v) (hs : view S a = some es) (hk : ∀ e ∈ es, e.cells.length = kk) (hk0 : 0 < kk) :
    ∃ (ao : Option Addr) (cap : Nat) (news : List Value), v = .slice ao es.length cap ∧ es.length ≤ cap ∧ cap ≤ maxLen ∧ news.length = es.length * kk ∧
      (∀ w' : World, w'.heap = w.heap → (Builtin.firstCells kk es.length v).run P w' = .ok news.toArray w') ∧
      (∀ i (h : i < es.length) j (h' : j < es[i].cells.length), ∃ x, news[i * kk + j]? = some x ∧ VR G es[i].cells[j] x) := by
  -- from a place where the cells lie
  have key : ∀ (c x cap : Nat) (ao : Option Addr) (u : Nat → Nat → Value), (0 < es.length → ao = some ⟨c, x, none⟩) → es.length ≤ cap → cap ≤ maxLen →
      (∀ i j, i < es.length → j < kk → w.cell? ⟨c, x + (i * kk + j), none⟩ = some (u i j)) → (∀ i (h : i < es.length) j (h' : j < es[i].cells.length), VR G es[i].cells[j] (u i j)) →
      ∃ (news : List Value), news.length = es.length * kk ∧
      (∀ w' : World, w'.heap = w.heap → (Builtin.firstCells kk es.length (.slice ao es.length cap)).run P w' = .ok news.toArray w') ∧
      (∀ i (h : i < es.length) j (h' : j < es[i].cells.length), ∃ x, news[i * kk + j]? = some x ∧ VR G es[i].cells[j] x) := by
    intro c x cap ao u ha h1 h2 hc hV
    refine ⟨(List.range (es.length * kk)).map fun p => u (p / kk) (p % kk), by simp, fun w' hw => ?_, fun i h j h' => ?_⟩
    · cases hl : es.length with
      | zero =>
        cases ao with
        | none => simp [Builtin.firstCells]
        | some b => simp [Builtin.firstCells, loadCells, loadCellsFrom]
      | succ m =>
        rw [← hl, ha (by omega)]
        refine run_firstCells_some (P := P) w' kk es.length _ es.length cap _ (by simp) (fun p q hq => ?_)
        have hp : p < es.length * kk := by
          by_cases hp : p < es.length * kk
          · exact hp
          · simp [hp] at hq
        simp [hp] at hq
        subst hq
        have hpd : p / kk < es.length := Nat.div_lt_of_lt_mul (by rw [Nat.mul_comm]; exact hp)
        have hc' := hc (p / kk) (p % kk) hpd (Nat.mod_lt _ hk0)
        have hdm : p / kk * kk + p % kk = p := by rw [Nat.mul_comm]; exact Nat.div_add_mod p kk
        rw [hdm] at hc'
        rw [addr_add]
        have : w'.cell? ⟨c, x + p, none⟩ = w.cell? ⟨c, x + p, none⟩ := by simp [World.cell?, hw]
        rw [this, hc']
    · have hjk : j < kk := by rw [← hk es[i] (List.getElem_mem h)]; exact h'
      have hlt : i * kk + j < es.length * kk := flat_lt h hjk
      have e1 : (i * kk + j) / kk = i := by rw [Nat.mul_comm, Nat.mul_add_div (by omega), Nat.div_eq_of_lt hjk]; rfl
      have e2 : (i * kk + j) % kk = j := by rw [Nat.mul_comm, Nat.mul_add_mod, Nat.mod_eq_of_lt hjk]
      refine ⟨u i j, ?_, hV i h j h'⟩
      simp [hlt, e1, e2]
  cases hv with
  | nil =>
    simp only [view, Option.some.injEq] at hs
    subst hs
    obtain ⟨news, q1, q2, q3⟩ := key 0 0 0 none (fun _ _ => undef) (fun h => by simp at h) (by simp) (by simp) (fun i _ h => by simp at h) (fun i h => by simp at h)
    exact ⟨none, 0, news, rfl, by simp, by simp, q1, q2, q3⟩
  | list es' a n cap c x k u hn hcap hm ha hk' hi hvv =>
    simp only [view, Option.some.injEq] at hs
    subst hs
    subst hn
    obtain ⟨news, q1, q2, q3⟩ := key c x cap a u ha hcap hm (fun i j h1 h2 => by
      have hkk : k = kk := (hk' i h1).symm.trans (hk _ (List.getElem_mem h1))
      subst hkk
      exact hr.imm _ _ _ (hi i j h1 h2)) hvv
    exact ⟨a, cap, news, rfl, hcap, hm, q1, q2, q3⟩
  | sl kk' r k g off len a L hL hkk hc hm ha =>
    simp only [view] at hs
    split at hs
    · rename_i kk'' es' g' hS
      split at hs
      · rename_i hcond
        obtain ⟨rfl, rfl, hle⟩ := hcond
        simp only [Option.some.injEq] at hs
        have hlen : es.length = len := by rw [← hs]; simp; omega
        subst hlen
        obtain ⟨L', hL', hobj, _⟩ := hr.obj _ _ _ _ hS
        obtain rfl : L' = L := by rw [hL] at hL'; exact (Option.some.inj hL').symm
        have hget : ∀ i (h : i < es.length), ∃ h' : off + i < es'.length, es[i] = es'[off + i] := fun i h => ⟨by omega, (List.getElem_of_eq hs.symm h).trans (by rw [List.getElem_take, List.getElem_drop])⟩
        by_cases hl0 : es.length = 0
        · obtain ⟨news, q1, q2, q3⟩ := key 0 0 (L'.cap - off) a (fun _ _ => undef) (fun h => by omega) (by omega) (by omega) (fun i _ h => by omega) (fun i h => by omega)
          exact ⟨a, L'.cap - off, news, rfl, by omega, by omega, q1, q2, q3⟩
        · have hk'' : kk'' = kk := by
            obtain ⟨h', e⟩ := hget 0 (by omega)
            have h1 := hobj.2.2.2.2.1 _ h'
            rw [← e, hk _ (List.getElem_mem (by omega))] at h1
            exact h1.symm
          have hcells : ∀ i j, i < es.length → j < kk → ∃ u, w.cell? ⟨L'.block, off * L'.k + (i * kk + j), none⟩ = some u ∧ ∀ (h : i < es.length) (h' : j < es[i].cells.length), VR G es[i].cells[j] u := by
            intro i j h1 h2
            obtain ⟨h', e⟩ := hget i h1
            obtain ⟨y, y1, y2⟩ := hobj.cell h' (j := j) (by omega)
            refine ⟨y, ?_, fun h h'' => by simp only [e]; exact y2⟩
            rw [hkk, hk''] at *
            rw [Nat.add_mul, Nat.add_assoc] at y1
            exact y1
          obtain ⟨u, hu⟩ : ∃ u : Nat → Nat → Value, ∀ i j, i < es.length → j < kk → w.cell? ⟨L'.block, off * L'.k + (i * kk + j), none⟩ = some (u i j) ∧ ∀ (h : i < es.length) (h' : j < es[i].cells.length), VR G es[i].cells[j] (u i j) := by
            refine ⟨fun i j => if h : i < es.length ∧ j < kk then (hcells i j h.1 h.2).choose else undef, fun i j h1 h2 => ?_⟩
            show w.cell? _ = some (dite _ _ _) ∧ ∀ _ _, VR G _ (dite _ _ _)
            rw [dif_pos (⟨h1, h2⟩ : i < es.length ∧ j < kk)]
            exact (hcells i j h1 h2).choose_spec
          obtain ⟨news, q1, q2, q3⟩ := key L'.block (off * L'.k) (L'.cap - off) a u (fun h => ha (by omega)) (by omega) (by omega) (fun i j h1 h2 => (hu i j h1 h2).1)
            (fun i h j h' => (hu i j h (by rw [← hk _ (List.getElem_mem h)]; exact h')).2 h h')
          exact ⟨a, L'.cap - off, news, rfl, by omega, by omega, q1, q2, q3⟩
      · cases hs
    · cases hs
  | _ => cases hs
/-- append, whatever the base: within the capacity, or into a new row. -/
theorem run_append_fits {t ty e : TypeId} {i : TypeInfo} (ht : P.underlying t = some (.slice e)) (hi : P.info? e = some i) {b : Nat} {n m cap : Nat} {x : Value} {row : Array Value} {et : TypeId} {news : List Value}
    (hx : (Builtin.lenOf x).run P w = .ok m w) (hf : (Builtin.firstCells i.size m x).run P w = .ok news.toArray w) (hrow : w.heap[b]? = some (.cells row et (0, 0))) (h1 : ∀ u ∈ news, u.oneCell' = true)
    (hroom : n + m ≤ cap) (hfit : n * i.size + news.length ≤ row.size) :
    (Builtin.append_ #[t, t] ty #[.slice (some ⟨b, 0, none⟩) n cap, x]).run P w =
      .ok (.slice (some ⟨b, 0, none⟩) (n + m) cap) (w.setRow b (row.toList.take (n * i.size) ++ news ++ row.toList.drop (n * i.size + news.length)).toArray) := by
  have hst := run_storeCells_at P b (n * i.size) et news 0 row w hrow (by simpa using hfit) h1
  simp only [Nat.add_zero] at hst
  simp [Builtin.append_, run_underlying ht, sizeOf, typeInfo, hi, hx, hroom, hf, addr_add, hst]
theorem run_append_none {t ty e : TypeId} {i : TypeInfo} (ht : P.underlying t = some (.slice e)) (hi : P.info? e = some i) {base : Option Addr} {n m cap : Nat} {x : Value} {news : List Value}
    (hx : (Builtin.lenOf x).run P w = .ok m w) (hf : (Builtin.firstCells i.size m x).run P w = .ok news.toArray w) (hn : news = []) (hroom : n + m ≤ cap) :
    (Builtin.append_ #[t, t] ty #[.slice base n cap, x]).run P w = .ok (.slice base (n + m) cap) w := by
  subst hn
  cases base <;> simp [Builtin.append_, run_underlying ht, sizeOf, typeInfo, hi, hx, hroom, hf, storeCells]
theorem run_append_new {t ty e : TypeId} {i : TypeInfo} {z : Value} (ht : P.underlying t = some (.slice e)) (hi : P.info? e = some i) (hz : i.zero = some z) {base : Option Addr} {n m cap : Nat} {x : Value} {olds news : List Value}
    (hx : (Builtin.lenOf x).run P w = .ok m w) (ho : ∀ w' : World, w'.heap = w.heap → (Builtin.firstCells i.size n (.slice base n cap)).run P w' = .ok olds.toArray w')
    (hf : ∀ w' : World, w'.heap = w.heap → (Builtin.firstCells i.size m x).run P w' = .ok news.toArray w')
    (hg : cap < n + m) (h63 : n + m ≤ 9223372036854775807) (hfit : (n + m) * i.bytes ≤ 140737488355328) :
    (Builtin.append_ #[t, t] ty #[.slice base n cap, x]).run P w =
      .ok (.slice (some ⟨w.heap.size, 0, none⟩) (n + m) (grownCap w (n + m) cap e))
        (w.drew.alloc (.cells (olds.toArray ++ news.toArray ++ Builtin.zeroCells z.cells (grownCap w (n + m) cap e - (n + m))) e)) := by
  have hn : ¬ (n + m ≤ cap) := by omega
  have h63' : ¬ (9223372036854775807 < ((n : Int) + (m : Int))) := by omega
  have h48 := growslice_fits (need := n + m) (old := cap) (bytes := i.bytes) hg hfit
  have h48' : ¬ (281474976710656 < Builtin.nextslicecap (n + m) cap * i.bytes) := by omega
  have e1 := ho w.drew rfl
  have e2 := hf w.drew rfl
  simp [Builtin.append_, run_underlying ht, sizeOf, typeInfo, zeroValue, hi, hz, hx, hn, h63', h48', Question.forced, e1, e2, newRow, grownCap]
  congr 2
  apply Array.ext'
  simp [List.append_assoc]
/-- append: the base is nil, or the whole of a row. 'rg', 'k': where a nil base's row is laid. -/
def vAppend (P : Program) (rg k : Nat) (T : TypeId) (b x : AV) (S : St) (K : AV → St → Prop) : Prop :=
  match td P T with
  | .slice e => match view S x with
    | some xs => (tyok P e = true ∧ (xs.all fun x => allOne x.cells && (x.cells.length == (zav P e).cells.length)) = true) ∧ (match b with
      | .nil => xs.length * bts P e ≤ 140737488355328 ∧ xs.length ≤ 9223372036854775807 ∧ ∀ g, K (.sl (zav P e).cells.length rg k g 0 xs.length) (S.set rg k (.arr (zav P e).cells.length xs) g)
      | .sl kk r k' g off n => match S r k' with
        | some (.arr kk' es, g') => (g' = g ∧ off = 0 ∧ kk' = kk ∧ kk = (zav P e).cells.length ∧ n = es.length) ∧ ((es.length + xs.length) * bts P e ≤ 140737488355328 ∧ es.length + xs.length ≤ 9223372036854775807) ∧
            ∀ g2, K (.sl kk r k' g2 0 (es.length + xs.length)) (S.set r k' (.arr kk (es ++ xs)) g2)
        | _ => False
      | _ => False)
    | none => False
  | _ => False
theorem l_append_core {T ty e : TypeId} {base : Value} {kk n : Nat} {es xs : List AV} {x : Value} {a : AV} (hr : Rel G S w) (hx : VR G a x) (hxs : view S a = some xs)
    (hd : P.underlying T = some (.slice e)) (hty : tyok P e = true) (hkk : kk = (zav P e).cells.length) (hall : ∀ y ∈ xs, allOne y.cells = true ∧ y.cells.length = kk) (r k : Nat)
    (hn : n = es.length) (hek : ∀ y ∈ es, y.cells.length = kk)
    (hbytes : (es.length + xs.length) * bts P e ≤ 140737488355328) (h63 : es.length + xs.length ≤ 9223372036854775807)
    (hbase : (es = [] ∧ ∃ ao, base = .slice ao 0 0) ∨ ∃ g L, S r k = some (.arr kk es, g) ∧ G.loc r k g = some L ∧ 0 < L.cap ∧ base = .slice (some ⟨L.block, 0, none⟩) n L.cap) :
    ∃ v w' g G', (Builtin.append_ #[T, T] ty #[base, x]).run P w = .ok v w' ∧ G.le G' ∧ Rel G' (S.set r k (.arr kk (es ++ xs)) g) w' ∧ VR G' (.sl kk r k g 0 (es.length + xs.length)) v := by
  obtain ⟨i, z, hi, hz, _⟩ := tyok_zero hty
  obtain ⟨b1, b2, b3, _⟩ := one_at (P := P) (G := G) hty hi hz
  have hks : kk = i.size := by omega
  subst hn
  have hby : (es.length + xs.length) * i.bytes ≤ 140737488355328 := by simpa [bts, hi] using hbytes
  obtain ⟨ao, cap, news, rfl, hcl, hcm, hnl, hf, hV⟩ := view_cells (P := P) hr hx hxs (fun y hy => (hall y hy).2) (by omega)
  have hlen : (Builtin.lenOf (.slice ao xs.length cap)).run P w = .ok xs.length w := rfl
  obtain ⟨g, hg⟩ := hr.fresh r k
  have hones : ∀ u ∈ news, u.oneCell' = true := by
    intro u hu
    obtain ⟨p, hp, rfl⟩ := List.mem_iff_getElem.1 hu
    have hpk : p < xs.length * kk := by omega
    have hpd : p / kk < xs.length := Nat.div_lt_of_lt_mul (by rw [Nat.mul_comm]; exact hpk)
    have hdm : p / kk * kk + p % kk = p := by rw [Nat.mul_comm]; exact Nat.div_add_mod p kk
    have hal := hall xs[p / kk] (List.getElem_mem hpd)
    have hjm : p % kk < xs[p / kk].cells.length := by rw [hal.2]; exact Nat.mod_lt _ (by omega)
    obtain ⟨y, y1, y2⟩ := hV _ hpd _ hjm
    rw [hdm, List.getElem?_eq_getElem hp] at y1
    rw [Option.some.inj y1]
    exact y2.oneCell (List.all_eq_true.1 hal.1 _ (List.getElem_mem hjm))
  -- the elements of the joined list
  have happ : ∀ (G' : Ghost), G.le G' → ∀ (row : Array Value), (∀ p (h : p < es.length) j (h' : j < es[p].cells.length), ∃ x, row[p * kk + j]? = some x ∧ VR G es[p].cells[j] x) →
      (∀ q, q < xs.length * kk → row[es.length * kk + q]? = news[q]?) →
      ∀ p (h : p < (es ++ xs).length) j (h' : j < (es ++ xs)[p].cells.length), ∃ x, row[p * kk + j]? = some x ∧ VR G' (es ++ xs)[p].cells[j] x := by
    intro G' hle row h1 h2 p hp j hj
    simp only [List.length_append] at hp
    by_cases hpe : p < es.length
    · have e : (es ++ xs)[p] = es[p] := List.getElem_append_left hpe
      simp only [e] at hj ⊢
      obtain ⟨y, y1, y2⟩ := h1 p hpe j hj
      exact ⟨y, y1, y2.mono hle⟩
    · have e : (es ++ xs)[p] = xs[p - es.length] := List.getElem_append_right (by omega)
      simp only [e] at hj ⊢
      obtain ⟨y, y1, y2⟩ := hV (p - es.length) (by omega) j hj
      have hjk : j < kk := by rw [← (hall _ (List.getElem_mem (show p - es.length < xs.length by omega))).2]; exact hj
      have e2 : p * kk + j = es.length * kk + ((p - es.length) * kk + j) := by rw [← Nat.add_assoc, ← Nat.add_mul]; congr 2; omega
      refine ⟨y, ?_, y2.mono hle⟩
      rw [e2, h2 _ (flat_lt (by omega) hjk), y1]
  have hcells : ∀ p (h : p < (es ++ xs).length), (es ++ xs)[p].cells.length = kk := by
    intro p hp
    rcases List.mem_append.1 (List.getElem_mem hp) with h | h
    · exact hek _ h
    · exact (hall _ h).2
  -- into a new row
  have grow : ∀ (base : Option Addr) (c : Nat) (olds : List Value), olds.length = es.length * kk → (∀ w' : World, w'.heap = w.heap → (Builtin.firstCells kk es.length (.slice base es.length c)).run P w' = .ok olds.toArray w') →
      (∀ p (h : p < es.length) j (h' : j < es[p].cells.length), ∃ x, olds[p * kk + j]? = some x ∧ VR G es[p].cells[j] x) → c < es.length + xs.length →
      ∃ v w' G', (Builtin.append_ #[T, T] ty #[.slice base es.length c, .slice ao xs.length cap]).run P w = .ok v w' ∧ G.le G' ∧ Rel G' (S.set r k (.arr kk (es ++ xs)) g) w' ∧ VR G' (.sl kk r k g 0 (es.length + xs.length)) v := by
    intro base c olds ho1 ho2 ho3 hlt
    have hrun := run_append_new (P := P) (w := w) (ty := ty) hd hi hz (base := base) (cap := c) hlen (by rw [← hks]; exact ho2) (by rw [← hks]; exact hf) hlt h63 hby
    have hge := grownCap_ge w (es.length + xs.length) c e
    have hcm' := grownCap_le_maxLen w (es.length + xs.length) c e (by simp only [maxLen]; omega)
    obtain ⟨G', q1, q2, _, q4⟩ := hr.put (grownBy_drew w (.cells (olds.toArray ++ news.toArray ++ Builtin.zeroCells z.cells (grownCap w (es.length + xs.length) c e - (es.length + xs.length))) e)) r k g (.arr kk (es ++ xs))
      ⟨w.heap.size, grownCap w (es.length + xs.length) c e, kk, e⟩ (fun b hb => by cases hb) (fun _ => .inl (Nat.le_refl _)) (.inl hg)
      (fun G' hle => arr_at (L := ⟨w.heap.size, grownCap w (es.length + xs.length) c e, kk, e⟩) (row := olds.toArray ++ news.toArray ++ Builtin.zeroCells z.cells (grownCap w (es.length + xs.length) c e - (es.length + xs.length)))
        (heap_alloc_new w.drew _) (by simp only; omega)
        (by
          simp only [Array.size_append, List.size_toArray, size_zeroCells, ho1, hnl, b2, ← hks, ← Nat.add_mul]
          congr 1; omega) (by simpa using hge) hcm' hcells
        (happ G' hle _ (fun p h j h' => by
            obtain ⟨y, y1, y2⟩ := ho3 p h j h'
            refine ⟨y, ?_, y2⟩
            have hlt : p * kk + j < olds.length := by
              by_cases hc : p * kk + j < olds.length
              · exact hc
              · rw [List.getElem?_eq_none (by omega)] at y1; cases y1
            rw [Array.append_assoc, Array.getElem?_append_left (by simpa using hlt)]
            simpa using y1)
          (fun q hq => by
            rw [Array.append_assoc, Array.getElem?_append_right (by simp only [List.size_toArray]; omega), Array.getElem?_append_left (by simp only [List.size_toArray]; omega)]
            simp only [List.size_toArray, ho1, Nat.add_sub_cancel_left]
            simp)))
    refine ⟨_, _, G', hrun, q1, q4, ?_⟩
    have := VR.sl (G := G') kk r k g 0 (es.length + xs.length) (some ⟨w.heap.size, 0, none⟩) _ q2 rfl (by simpa using hge) hcm' (fun _ => by simp)
    simpa using this
  rcases hbase with ⟨rfl, ao', rfl⟩ | ⟨g0, L, hS, hL, hc0, rfl⟩
  · by_cases hx0 : xs.length = 0
    · have hn0 : news = [] := List.eq_nil_of_length_eq_zero (by rw [hnl, hx0]; simp)
      have hx0' : xs = [] := List.eq_nil_of_length_eq_zero hx0
      subst hx0'
      have hrun := run_append_none (P := P) (w := w) (ty := ty) hd hi (base := ao') (n := 0) (cap := 0) hlen (by rw [← hks]; exact hf w rfl) hn0 (by simp)
      obtain ⟨G', q1, q2, _, q4⟩ := hr.put (grownRefl w) r k g (.arr kk []) ⟨0, 0, kk, e⟩ (fun b hb => by cases hb) (fun h => by simp at h) (.inl hg)
        (fun G' hle => ⟨by omega, rfl, by simp, by simp [maxLen], fun i h => by simp at h, fun h => by simp at h⟩)
      refine ⟨_, _, g, G', hrun, q1, q4, ?_⟩
      have := VR.sl (G := G') kk r k g 0 0 ao' _ q2 rfl (by simp) (by simp [maxLen]) (fun h => by simp at h)
      simpa using this
    · obtain ⟨v, w', G', h1, h2, h3, h4⟩ := grow ao' 0 [] (by simp) (fun w' _ => by cases ao' <;> simp [Builtin.firstCells, loadCells, loadCellsFrom]) (fun p h => by simp at h) (by simp; omega)
      exact ⟨v, w', g, G', h1, h2, h3, h4⟩
  · obtain ⟨L', hL', hobj, hown⟩ := hr.obj _ _ _ _ hS
    obtain rfl : L' = L := by rw [hL] at hL'; exact (Option.some.inj hL').symm
    obtain ⟨hk0, hLk, hecap, hLm, hecl, hrows⟩ := hobj
    obtain ⟨row, hrow, hrs, hel⟩ := hrows hc0
    by_cases hroom : es.length + xs.length ≤ L'.cap
    · have hfit : es.length * i.size + news.length ≤ row.size := by
        rw [hnl, hrs, ← hks, ← Nat.add_mul]; exact Nat.mul_le_mul_right _ hroom
      have hrun := run_append_fits (P := P) (w := w) (ty := ty) hd hi (n := es.length) hlen (by rw [← hks]; exact hf w rfl) hrow hones hroom hfit
      rw [← hks] at hfit hrun
      have hset := setRow_heap w L'.block row (row.toList.take (es.length * kk) ++ news ++ row.toList.drop (es.length * kk + news.length)).toArray L'.t (0, 0) hrow
      have hlt : (row.toList.take (es.length * kk)).length = es.length * kk := by simp; omega
      obtain ⟨G', q1, q2, _, q4⟩ := hr.put (w' := w.setRow L'.block _) (row := some L'.block) ⟨rfl, rfl, rfl, by simp, fun b _ hb => setRow_other w L'.block b _ (fun e => hb (by rw [e]))⟩ r k g
        (.arr kk (es ++ xs)) L' (fun b hb => by injection hb with hb; subst hb; exact ⟨_, _, _, hS, hL, hc0, rfl⟩) (fun hc => .inr ⟨_, _, _, hS, hL, hc, rfl⟩) (.inl hg)
        (fun G' hle => by
          have hh := arr_at (G' := G') (L := L') (es := es ++ xs) (row := (row.toList.take (es.length * kk) ++ news ++ row.toList.drop (es.length * kk + news.length)).toArray) hset (by omega)
            (by
              have hrs' : row.size = L'.cap * L'.k := by rw [hLk]; exact hrs
              simp only [List.size_toArray, List.length_append, List.length_take, List.length_drop, Array.length_toList]
              rw [← hrs']
              omega) (by simpa using hroom) hLm (fun p h => by rw [hcells p h, hLk])
            (by
              rw [hLk]
              refine happ G' hle _ (fun p h j h' => ?_) (fun q hq => ?_)
              · obtain ⟨y, y1, y2⟩ := hel p h j h'
                refine ⟨y, ?_, y2⟩
                have hjk : j < kk := by rw [← hek _ (List.getElem_mem h)]; exact h'
                have hlt' : p * kk + j < es.length * kk := flat_lt h hjk
                simp only [List.getElem?_toArray]
                rw [List.append_assoc, List.getElem?_append_left (by omega), List.getElem?_take, if_pos hlt']
                simpa using y1
              · simp only [List.getElem?_toArray]
                rw [List.append_assoc, List.getElem?_append_right (by omega), hlt, List.getElem?_append_left (by omega)]
                congr 1; omega)
          rw [hLk] at hh
          exact hh)
      refine ⟨_, _, g, G', hrun, q1, q4, ?_⟩
      have := VR.sl (G := G') kk r k g 0 (es.length + xs.length) (some ⟨L'.block, 0, none⟩) _ q2 hLk (by simpa using hroom) hLm (fun _ => by simp)
      simpa using this
    · obtain ⟨v, w', G', h1, h2, h3, h4⟩ := grow (some ⟨L'.block, 0, none⟩) L'.cap (row.toList.take (es.length * kk))
        (by simp only [List.length_take, Array.length_toList, hrs]; have := Nat.mul_le_mul_right kk hecap; omega)
        (fun w' hw => by
          refine run_firstCells_some (P := P) w' kk es.length _ es.length L'.cap _ (by simp only [List.length_take, Array.length_toList, hrs]; have := Nat.mul_le_mul_right kk hecap; omega) (fun p q hq => ?_)
          rw [List.getElem?_take] at hq
          split at hq
          · rw [addr_add, Nat.zero_add]
            have : w'.cell? ⟨L'.block, p, none⟩ = w.cell? ⟨L'.block, p, none⟩ := by simp [World.cell?, hw]
            rw [this, cell_of_row w _ _ row _ _ hrow]
            simpa using hq
          · cases hq)
        (fun p h j h' => by
          obtain ⟨y, y1, y2⟩ := hel p h j h'
          have hjk : j < kk := by rw [← hek _ (List.getElem_mem h)]; exact h'
          refine ⟨y, ?_, y2⟩
          rw [List.getElem?_take, if_pos (flat_lt h hjk)]
          simpa using y1) (by omega)
      exact ⟨v, w', g, G', h1, h2, h3, h4⟩
theorem sop_append {n : Nat} {o : Oper} {t : Env} {T : TypeId} {b x : Operand} {K : AV → St → Prop} (ho : o.op = .call { callee := .builtin .append, args := #[b, x], argTypes := #[T, T] }) (rg k : Nat)
    (h : vAppend P rg k T (ev t b) (ev t x) S K) : SOp P n o t S K := by
  refine sop_value (fun ρ => Builtin.append_ #[T, T] o.type #[ρ b, ρ x]) (fun ρ => by simp [execOp, ho, resolve, invoke, builtin]) fun G ρ w hr he => ?_
  unfold vAppend at h
  split at h
  · rename_i e hd
    split at h
    · rename_i xs hxs
      obtain ⟨⟨hty, hall⟩, h⟩ := h
      have hall' : ∀ y ∈ xs, allOne y.cells = true ∧ y.cells.length = (zav P e).cells.length := fun y hy => by
        have := List.all_eq_true.1 hall y hy
        simpa using this
      have hb := he b
      generalize ρ b = vb at hb
      generalize ev t b = ab at hb h
      cases hb with
      | nil =>
        obtain ⟨h1, h2, hK⟩ := h
        obtain ⟨v, w', g, G', q1, q2, q3, q4⟩ := l_append_core (P := P) (ty := o.type) (base := .slice none 0 0) (n := 0) (es := []) hr (he x) hxs (td_slice hd) hty rfl hall' rg k rfl (fun y hy => by cases hy)
          (by simpa using h1) (by simpa using h2) (.inl ⟨rfl, _, rfl⟩)
        simp only [List.nil_append, List.length_nil, Nat.zero_add] at q3 q4
        exact ⟨v, w', _, _, G', q1, hK g, q2, q3, q4⟩
      | sl kk r k' g off n a L hL hk hc hm ha =>
        simp only at h
        split at h
        · rename_i kk' es g' hS
          obtain ⟨⟨rfl, rfl, rfl, hkk, rfl⟩, ⟨h1, h2⟩, hK⟩ := h
          obtain ⟨L', hL', hobj, _⟩ := hr.obj _ _ _ _ hS
          obtain rfl : L' = L := by rw [hL] at hL'; exact (Option.some.inj hL').symm
          obtain ⟨v, w', g2, G', q1, q2, q3, q4⟩ := l_append_core (P := P) (ty := o.type) (n := es.length) (es := es) hr (he x) hxs (td_slice hd) hty hkk (fun y hy => by rw [hkk]; exact hall' y hy) r k' rfl
            (fun y hy => by
              obtain ⟨p, hp, rfl⟩ := List.mem_iff_getElem.1 hy
              exact hobj.2.2.2.2.1 p hp) h1 h2
            (base := .slice a es.length (L'.cap - 0))
            (by
              by_cases hc0 : 0 < L'.cap
              · refine .inr ⟨_, _, hS, hL, hc0, ?_⟩
                rw [ha hc0]; simp
              · have : es.length = 0 := by omega
                refine .inl ⟨List.eq_nil_of_length_eq_zero this, a, ?_⟩
                rw [this]
                congr 1; omega)
          exact ⟨v, w', _, _, G', q1, hK g2, q2, q3, q4⟩
        · exact h.elim
      | _ => exact h.elim
    · exact h.elim
  · exact h.elim
end
end Go.Gg
