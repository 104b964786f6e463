/- An own logic over the kit's weakest preconditions, part A: abstract values, abstract stores, what it means that a concrete world fits them. Conditions: none. -/
import Derived.WalkKit
import Derived.Orders
namespace Go.Gg
open Go.RowKit (Below)

/-- Abstract values: as the model's, but a slice that nobody writes is the list of its elements, and mutable memory is named by region, key and generation. -/
inductive AV where
  | int (k : IntKind) (n : Int)
  | bool (b : Bool)
  | str (s : ByteArray)
  | nilp
  | ptr (r k g i off : Nat)
  | iptr (cs : List AV)
  | nil
  | list (es : List AV)
  | sl (kk r k g off len : Nat)
  | nilmap
  | map (r k g : Nat)
  | fn (f : Fn) (first caps : List AV)
  | nilf
  | niface
  | iface (t : TypeId) (v : AV)
  | agg (cs : List AV)
  | tuple (vs : List AV)
  | junk
  deriving Inhabited

def AV.cells : AV → List AV
  | .agg cs => cs
  | v => [v]

/-- A value of one cell, of which that is known. -/
def AV.one : AV → Bool
  | .agg _ | .tuple _ | .junk => false
  | _ => true
/-- A value whose cells are known to be as many as listed. -/
def AV.solid : AV → Bool
  | .agg _ => true
  | v => v.one

structure Loc where
  block : Nat
  cap : Nat
  k : Nat
  t : TypeId

structure Ghost where
  init : World
  imm : Nat → Nat → Option Value
  loc : Nat → Nat → Nat → Option Loc

structure Ghost.le (G G' : Ghost) : Prop where
  init : G'.init = G.init
  imm : ∀ b o u, G.imm b o = some u → G'.imm b o = some u
  loc : ∀ r k g L, G.loc r k g = some L → G'.loc r k g = some L

theorem Ghost.le.refl (G : Ghost) : G.le G := ⟨rfl, fun _ _ _ h => h, fun _ _ _ _ h => h⟩
theorem Ghost.le.trans {A B C : Ghost} (h : A.le B) (h' : B.le C) : A.le C :=
  ⟨h'.init.trans h.init, fun b o u e => h'.imm b o u (h.imm b o u e), fun r k g L e => h'.loc r k g L (h.loc r k g L e)⟩

/-- The concrete value fits the abstract one. -/
inductive VR (G : Ghost) : AV → Value → Prop where
  | int (k : IntKind) (n : Int) : VR G (.int k n) (.int k n)
  | bool (b : Bool) : VR G (.bool b) (.bool b)
  | str (s : ByteArray) : VR G (.str s) (.string s)
  | nilp : VR G .nilp (.pointer none)
  | ptr (r k g i off : Nat) (L : Loc) : G.loc r k g = some L → VR G (.ptr r k g i off) (.pointer (some ⟨L.block, i * L.k + off, none⟩))
  | iptr (cs : List AV) (c x : Nat) (u : Nat → Value) : (∀ j, j < cs.length → G.imm c (x + j) = some (u j)) →
      (∀ j (h : j < cs.length), VR G cs[j] (u j)) → VR G (.iptr cs) (.pointer (some ⟨c, x, none⟩))
  | nil : VR G .nil (.slice none 0 0)
  | list (es : List AV) (a : Option Addr) (n cap c x k : Nat) (u : Nat → Nat → Value) : n = es.length → n ≤ cap → cap ≤ maxLen → (0 < n → a = some ⟨c, x, none⟩) →
      (∀ i (h : i < es.length), es[i].cells.length = k) → (∀ i j, i < n → j < k → G.imm c (x + (i * k + j)) = some (u i j)) →
      (∀ i (h : i < es.length) j (h' : j < es[i].cells.length), VR G es[i].cells[j] (u i j)) → VR G (.list es) (.slice a n cap)
  | sl (kk r k g off len : Nat) (a : Option Addr) (L : Loc) : G.loc r k g = some L → L.k = kk → off + len ≤ L.cap → L.cap ≤ maxLen → (off < L.cap → a = some ⟨L.block, off * L.k, none⟩) →
      VR G (.sl kk r k g off len) (.slice a len (L.cap - off))
  | nilmap : VR G .nilmap (.map none)
  | map (r k g : Nat) (L : Loc) : G.loc r k g = some L → VR G (.map r k g) (.map (some L.block))
  | fn (f : Fn) (first caps : List AV) (fs cs : Array Value) : fs.size = first.length → cs.size = caps.length →
      (∀ i (h : i < first.length) (h' : i < fs.size), VR G first[i] fs[i]) → (∀ i (h : i < caps.length) (h' : i < cs.size), VR G caps[i] cs[i]) → VR G (.fn f first caps) (.func f fs cs)
  | nilf : VR G .nilf .nilFunc
  | niface : VR G .niface .nilIface
  | iface (t : TypeId) (v : AV) (x : Value) : VR G v x → VR G (.iface t v) (.iface t x)
  | agg (cs : List AV) (xs : Array Value) : xs.size = cs.length → (∀ i (h : i < cs.length) (h' : i < xs.size), VR G cs[i] xs[i]) → VR G (.agg cs) (.agg xs)
  | tuple (cs : List AV) (xs : Array Value) : xs.size = cs.length → (∀ i (h : i < cs.length) (h' : i < xs.size), VR G cs[i] xs[i]) → VR G (.tuple cs) (.tuple xs)
  | junk (x : Value) : VR G .junk x

theorem VR.mono {G G' : Ghost} {a : AV} {v : Value} (h : VR G a v) (hg : G.le G') : VR G' a v := by
  induction h with
  | int k n => exact .int k n
  | bool b => exact .bool b
  | str s => exact .str s
  | nilp => exact .nilp
  | ptr r k g i off L h => exact .ptr r k g i off L (hg.loc _ _ _ _ h)
  | iptr cs c x u h1 _ ih => exact .iptr cs c x u (fun j hj => hg.imm _ _ _ (h1 j hj)) ih
  | nil => exact .nil
  | list es a n cap c x k u h1 h2 h2' h3 h4 h5 _ ih => exact .list es a n cap c x k u h1 h2 h2' h3 h4 (fun i j hi hj => hg.imm _ _ _ (h5 i j hi hj)) ih
  | sl kk r k g off len a L h1 h0 h2 h2' h3 => exact .sl kk r k g off len a L (hg.loc _ _ _ _ h1) h0 h2 h2' h3
  | nilmap => exact .nilmap
  | map r k g L h => exact .map r k g L (hg.loc _ _ _ _ h)
  | fn f first caps fs cs h1 h2 _ _ ih1 ih2 => exact .fn f first caps fs cs h1 h2 ih1 ih2
  | nilf => exact .nilf
  | niface => exact .niface
  | iface t v x _ ih => exact .iface t v x ih
  | agg cs xs h1 _ ih => exact .agg cs xs h1 ih
  | tuple cs xs h1 _ ih => exact .tuple cs xs h1 ih
  | junk x => exact .junk x

/-- The cells of a value that fits fit the abstract cells. -/
theorem VR.cells {G : Ghost} {a : AV} {v : Value} (h : VR G a v) (hs : a.solid = true) :
    v.cells.size = a.cells.length ∧ ∀ j (h1 : j < a.cells.length) (h2 : j < v.cells.size), VR G a.cells[j] v.cells[j] := by
  cases h <;> first
    | (simp [AV.solid, AV.one] at hs; done)
    | (rename_i hsz hel; exact ⟨hsz, hel⟩)
    | (refine ⟨by simp [Value.cells, AV.cells], fun j h1 h2 => ?_⟩
       simp only [AV.cells, List.length_singleton] at h1
       obtain rfl : j = 0 := by omega
       first
         | exact .int _ _ | exact .bool _ | exact .str _ | exact .nilp | exact .nil | exact .nilmap | exact .nilf | exact .niface
         | (rename_i q1 q2 q3 q4 q5 q6 q7; exact .list _ _ _ _ _ _ _ _ q1 q2 q3 q4 q5 q6 q7)
         | (rename_i q1 q2 q3 q4 q5; exact .sl _ _ _ _ _ _ _ _ q1 q2 q3 q4 q5)
         | (rename_i q1 q2 q3 q4; exact .fn _ _ _ _ _ q1 q2 q3 q4)
         | (rename_i q q'; exact .iptr _ _ _ _ q q')
         | (rename_i q; first | exact .ptr _ _ _ _ _ _ q | exact .map _ _ _ _ q | exact .iface _ _ _ q))

theorem VR.oneCell {G : Ghost} {a : AV} {v : Value} (h : VR G a v) (hs : a.one = true) : v.oneCell' = true := by
  cases h <;> first | rfl | (simp [AV.one] at hs)

/-! ### Stores -/

/-- An object: a row of elements of k cells each, or a map with n entries, its keys lists of integers. -/
inductive KShape where
  | one (k : IntKind)
  | many (ks : List IntKind)
  deriving DecidableEq
inductive GObj where
  | arr (k : Nat) (es : List AV)
  | mp (sh : KShape) (n : Nat) (m : List Int → Option AV)

abbrev St := Nat → Nat → Option (GObj × Nat)
def St.set (S : St) (r k : Nat) (o : GObj) (g : Nat) : St := fun r' k' => if r' = r ∧ k' = k then some (o, g) else S r' k'
def St.del (S : St) (r k : Nat) : St := fun r' k' => if r' = r ∧ k' = k then none else S r' k'
def St.clear (S : St) (r : Nat) : St := fun r' k' => if r' = r then none else S r' k'
/-- S' knows no more than S. -/
def St.sub (S' S : St) : Prop := ∀ r k x, S' r k = some x → S r k = some x

def mkKey : KShape → List Int → Option Value
  | .one k, [n] => some (.int k n)
  | .many ks, ns => if ks.length = ns.length then some (.agg ((ks.zip ns).map fun (k, n) => Value.int k n).toArray) else none
  | _, _ => none

def ObjAt (G : Ghost) (w : World) (L : Loc) : GObj → Prop
  | .arr kk es => 0 < kk ∧ L.k = kk ∧ es.length ≤ L.cap ∧ L.cap ≤ maxLen ∧ (∀ i (h : i < es.length), es[i].cells.length = kk) ∧
      (0 < L.cap → ∃ row : Array Value, w.heap[L.block]? = some (.cells row L.t (0, 0)) ∧ row.size = L.cap * kk ∧
        ∀ i (h : i < es.length) j (h' : j < es[i].cells.length), ∃ x, row[i * kk + j]? = some x ∧ VR G es[i].cells[j] x)
  | .mp sh n m => 0 < L.cap ∧ ∃ (ents : Array MapEntry) (clock : Nat), w.heap[L.block]? = some (.map ents clock) ∧ ents.size = n ∧
      (∀ e ∈ ents.toList, ∃ ns v, mkKey sh ns = some e.key ∧ m ns = some v ∧ VR G v e.val) ∧
      (∀ ns v, m ns = some v → ∃ e ∈ ents.toList, mkKey sh ns = some e.key) ∧
      (ents.toList.map (·.key)).Pairwise (fun a b => ∀ ns ns', mkKey sh ns = some a → mkKey sh ns' = some b → ns ≠ ns')

structure Rel (G : Ghost) (S : St) (w : World) : Prop where
  below : Below G.init.heap.size G.init w
  imm : ∀ b o u, G.imm b o = some u → w.cell? ⟨b, o, none⟩ = some u
  obj : ∀ r k o g, S r k = some (o, g) → ∃ L, G.loc r k g = some L ∧ ObjAt G w L o ∧ (0 < L.cap → G.init.heap.size ≤ L.block ∧ ∀ x, G.imm L.block x = none)
  inj : ∀ r k o g r' k' o' g' L L', S r k = some (o, g) → S r' k' = some (o', g') → G.loc r k g = some L → G.loc r' k' g' = some L' →
    0 < L.cap → 0 < L'.cap → ¬ (r = r' ∧ k = k') → L.block ≠ L'.block
  fin : ∃ N, ∀ r, N ≤ r → ∀ k, S r k = none
  fing : ∀ r k, ∃ N, ∀ g, N ≤ g → G.loc r k g = none

theorem Rel.sub {G : Ghost} {S S' : St} {w : World} (h : Rel G S w) (hs : S'.sub S) : Rel G S' w := by
  refine ⟨h.below, h.imm, fun r k o g e => h.obj r k o g (hs _ _ _ e), fun r k o g r' k' o' g' L L' e e' => h.inj r k o g r' k' o' g' L L' (hs _ _ _ e) (hs _ _ _ e'), ?_, h.fing⟩
  obtain ⟨N, hN⟩ := h.fin
  refine ⟨N, fun r hr k => ?_⟩
  cases e : S' r k with
  | none => rfl
  | some x => have := hs _ _ _ e; rw [hN r hr k] at this; cases this

/-! ### Frames -/
abbrev Env := Nat → AV
def upd (t : Env) (d : Nat) (v : AV) : Env := fun k => if k = d then v else t k
def updo (t : Env) (d : Option Nat) (v : AV) : Env := match d with | some d => upd t d v | none => t

def ofConst1 : Value → AV
  | .int k n => .int k n
  | .bool b => .bool b
  | .string s => .str s
  | .pointer a => match a with | none => .nilp | some _ => .junk
  | .slice a n c => match a, n, c with | none, 0, 0 => .nil | _, _, _ => .junk
  | .map a => match a with | none => .nilmap | some _ => .junk
  | .nilFunc => .nilf
  | .nilIface => .niface
  | .func f fs cs => match fs.toList, cs.toList with | [], [] => .fn f [] [] | _, _ => .junk
  | .iface t (.int k n) => .iface t (.int k n)
  | _ => .junk
def ofConst : Value → AV
  | .agg cs => .agg (cs.toList.map ofConst1)
  | v => ofConst1 v

theorem VR.ofConst1 (G : Ghost) (v : Value) : VR G (Gg.ofConst1 v) v := by
  cases v <;> try exact .junk _
  case int => exact .int _ _
  case bool => exact .bool _
  case string => exact .str _
  case nilFunc => exact .nilf
  case nilIface => exact .niface
  case pointer a => cases a; exact .nilp; exact .junk _
  case map a => cases a; exact .nilmap; exact .junk _
  case slice a n c =>
    simp only [Gg.ofConst1]
    split
    · exact .nil
    · exact .junk _
  case func f fs cs =>
    simp only [Gg.ofConst1]
    split
    · rename_i h1 h2
      obtain rfl : fs = #[] := by cases fs; simp_all
      obtain rfl : cs = #[] := by cases cs; simp_all
      exact .fn _ [] [] #[] #[] rfl rfl (fun i h => by simp at h) (fun i h => by simp at h)
    · exact .junk _
  case iface t v =>
    cases v <;> first | exact .junk _ | exact .iface _ _ _ (.int _ _)

theorem VR.ofConst (G : Ghost) (v : Value) : VR G (Gg.ofConst v) v := by
  cases v
  case agg cs =>
    refine .agg _ _ (by simp) (fun i h h' => ?_)
    simp only [List.getElem_map, Array.getElem_toList]
    exact VR.ofConst1 G _
  all_goals (simp only [Gg.ofConst]; exact VR.ofConst1 G _)

def ev (t : Env) : Operand → AV
  | .tmp i => t i
  | .const v => ofConst v
  | .global _ => .junk
  | .func f => .fn (.func f) [] []

def TR (n : Nat) (G : Ghost) (t : Env) (a : Act) : Prop := a.defers = [] ∧ a.tmps.size = n ∧ ∀ i, VR G (t i) (a.tmps.getD i undef)

theorem TR.eval {n : Nat} {G : Ghost} {t : Env} {a : Act} (h : TR n G t a) (x : Operand) : VR G (ev t x) (a.eval x) := by
  cases x with
  | tmp i => exact h.2.2 i
  | const v => exact VR.ofConst G v
  | global g => exact .junk _
  | func f => exact .fn _ [] [] #[] #[] rfl rfl (fun i h => by simp at h) (fun i h => by simp at h)

theorem TR.mono {n : Nat} {G G' : Ghost} {t : Env} {a : Act} (h : TR n G t a) (hg : G.le G') : TR n G' t a := ⟨h.1, h.2.1, fun i => (h.2.2 i).mono hg⟩

theorem TR.put {n : Nat} {G : Ghost} {t : Env} {a : Act} (h : TR n G t a) {d : Option Nat} {v : AV} {x : Value} (hd : ∀ k, d = some k → k < n) (hv : VR G v x) :
    TR n G (updo t d v) (a.put d x) := by
  cases d with
  | none => exact h
  | some d =>
    refine ⟨h.1, by simpa [Act.put] using h.2.1, fun i => ?_⟩
    have hdn := hd d rfl
    simp only [updo, upd, Act.put]
    by_cases e : i = d
    · subst e
      have : i < a.tmps.size := by rw [h.2.1]; exact hdn
      simpa [Array.getD_eq_getD_getElem?, this] using hv
    · rw [if_neg e]
      have := h.2.2 i
      simp only [Array.getD_eq_getD_getElem?] at this ⊢
      rw [Array.getElem?_setIfInBounds_ne (Ne.symm e)]
      exact this

end Go.Gg
