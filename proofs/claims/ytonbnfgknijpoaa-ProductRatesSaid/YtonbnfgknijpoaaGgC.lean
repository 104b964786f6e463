/- An own logic over the kit's weakest preconditions, part C: what each operation asks and gives, as a formula (vq: it leaves the store alone; vl: it may change it). Conditions: none. -/
import Derived.Test.YtonbnfgknijpoaaGgB
namespace Go.Gg

/-! ### The types' table -/
inductive TD where
  | bool | int (k : IntKind) | str | ptr | slice (e : TypeId) | array (n : Nat) (e : TypeId) | map (k e : TypeId) | struct (fs : List (Nat × TypeId)) | func | iface | other
def td (P : Program) (T : TypeId) : TD :=
  match P.underlying T with
  | some .bool => .bool
  | some (.int k) => .int k
  | some .string => .str
  | some (.pointer _) => .ptr
  | some (.slice e) => .slice e
  | some (.array n e) => .array n e
  | some (.map k e) => .map k e
  | some (.struct fs) => .struct (fs.toList.map fun f => (f.offset, f.type))
  | some (.func ..) => .func
  | some (.interface _) => .iface
  | _ => .other
def sz (P : Program) (T : TypeId) : Nat := match P.info? T, P.underlying T with | some i, some _ => i.size | _, _ => 0
def bts (P : Program) (T : TypeId) : Nat := match P.info? T with | some i => i.bytes | none => 0
def zval (P : Program) (T : TypeId) : Value := match P.info? T with | some i => i.zero.getD undef | none => undef
def zav (P : Program) (T : TypeId) : AV := ofConst (zval P T)
/-- The zero value is there, and of the type's size. -/
def tyok (P : Program) (T : TypeId) : Bool := match P.info? T with
  | some i => (match i.zero with | some z => z.cells.size == i.size && z.cells.all (fun c => (ofConst c).one) && (ofConst z).solid && decide (0 < i.size) | none => false)
  | none => false

def isAggT (P : Program) (T : TypeId) : Bool := match td P T with | .struct _ | .array _ _ => true | _ => false

/-- The value of type T whose cells begin at 'off'. -/
def ldv (P : Program) (T : TypeId) (cs : List AV) (off : Nat) : AV := bif isAggT P T then .agg ((cs.drop off).take (sz P T)) else cs.getD off .junk
/-- An element behind a store of the value x from its cell 'off' on. -/
def stv (v : AV) (off : Nat) (x : AV) : AV := match v with
  | .agg l => .agg (l.take off ++ x.cells ++ l.drop (off + x.cells.length))
  | _ => x
def allOne (l : List AV) : Bool := l.all AV.one

def fld (P : Program) (T f : Nat) : Nat × TypeId := match td P T with | .struct fs => fs.getD f (0, 0) | _ => (0, 0)

def elemOfT (P : Program) (T : TypeId) : TypeId := match td P T with | .slice e => e | .array _ e => e | _ => 0

/-- All places of the list's elements hold one value each. -/
def mapKey (sh : KShape) : AV → Option (List Int)
  | .int k n => match sh with | .one k' => if k = k' then some [n] else none | _ => none
  | .agg cs => match sh with
    | .many ks => if cs.length = ks.length ∧ ((cs.zip ks).all fun (c, k) => match c with | .int k' _ => k' == k | _ => false) then some (cs.map fun | .int _ n => n | _ => 0) else none
    | _ => none
  | _ => none

/-! ### Integers -/
def vBits (op : BinOp) (k : IntKind) (m n : Int) (K : AV → Prop) : Prop :=
  match op with
  | .add => K (.int k (k.wrap (m + n)))
  | .sub => K (.int k (k.wrap (m - n)))
  | .mul => K (.int k (k.wrap (m * n)))
  | .quo => n ≠ 0 ∧ K (.int k (k.wrap (m.tdiv n)))
  | .rem => n ≠ 0 ∧ K (.int k (m.tmod n))
  | .and | .or | .xor | .andNot => K (.int k (bits op k m n))
  | .eql => K (.bool (m == n))
  | .neq => K (.bool (m != n))
  | .lss => K (.bool (decide (m < n)))
  | .leq => K (.bool (decide (m ≤ n)))
  | .gtr => K (.bool (decide (n < m)))
  | .geq => K (.bool (decide (n ≤ m)))
  | _ => False
def vShift (op : BinOp) (k : IntKind) (m n : Int) (K : AV → Prop) : Prop :=
  match op with
  | .shl => 0 ≤ n ∧ n ≤ k.bits ∧ K (.int k (k.wrap (m * 2 ^ n.toNat)))
  | .shr => 0 ≤ n ∧ n ≤ k.bits ∧ K (.int k (m / 2 ^ n.toNat))
  | _ => False
def isConst : Operand → Bool | .const _ => true | _ => false

/-- Aggregates of integers, compared. -/
def intsEq : List AV → List AV → Option Bool
  | [], [] => some true
  | .int k m :: a, .int k' n :: b => if k = k' then (intsEq a b).map (fun r => (m == n) && r) else none
  | _, _ => none
/-- The struct or array type holds integers alone, one cell each. -/
def plainInts (P : Program) (T : TypeId) : Option (List IntKind) := match P.underlying T with
  | some (.struct fs) => if P.stoodInHeld T then none else
      if (fs.toList.zipIdx.all fun (f, i) => f.name != "_" && f.offset == i) then fs.toList.mapM (fun f => match P.underlying f.type with | some (.int k) => some k | _ => none) else none
  | _ => none

def vBin (P : Program) (op : BinOp) (T : TypeId) (x y : Operand) (a b : AV) (K : AV → Prop) : Prop :=
  match a, b with
  | .int k m, .int k' n => match op with
    | .shl | .shr => vShift op k m n K
    | _ => k = k' ∧ vBits op k m n K
  | .bool p, .bool q => td P T = .bool ∧ (match op with | .eql => K (.bool (p == q)) | .neq => K (.bool (p != q)) | _ => False)
  | .niface, .niface => td P T = .iface ∧ (isConst x || isConst y) = true ∧ (match op with | .eql => K (.bool true) | .neq => K (.bool false) | _ => False)
  | .iface _ _, .niface | .niface, .iface _ _ => td P T = .iface ∧ (match op with | .eql => K (.bool false) | .neq => K (.bool true) | _ => False)
  | _, _ => False

def vUn (op : UnOp) (a : AV) (K : AV → Prop) : Prop :=
  match op, a with
  | .not, .bool b => K (.bool (!b))
  | .neg, .int k n => K (.int k (k.wrap (0 - n)))
  | .xor, .int k n => K (.int k (bits .xor k (if k.signed then -1 else k.max) n))
  | _, _ => False

def vLoad (P : Program) (T : TypeId) (a : AV) (S : St) (K : AV → Prop) : Prop :=
  match a with
  | .ptr r k g i off => match S r k with
    | some (.arr kk es, g') => (g' = g ∧ i < es.length ∧ 0 < sz P T ∧ (isAggT P T = false → sz P T = 1) ∧ off + sz P T ≤ kk) ∧ K (ldv P T (es.getD i .junk).cells off)
    | _ => False
  | .iptr cs => (0 < sz P T ∧ (isAggT P T = false → sz P T = 1) ∧ sz P T ≤ cs.length) ∧ K (ldv P T cs 0)
  | _ => False

def vIdxAddr (P : Program) (T : TypeId) (x i : AV) (K : AV → Prop) : Prop :=
  match i with
  | .int _ n => match td P T with
    | .slice e => match x with
      | .sl kk r k g off len => (0 ≤ n ∧ n < len) ∧ (0 < kk ∧ kk = sz P e) ∧ K (.ptr r k g (off + n.toNat) 0)
      | .list es => (0 ≤ n ∧ n < es.length) ∧ (0 < sz P e ∧ (es.getD n.toNat .junk).cells.length = sz P e) ∧ K (.iptr (es.getD n.toNat .junk).cells)
      | _ => False
    | .array len e => match x with
      | .ptr r k g i off => (0 ≤ n ∧ n < len) ∧ 0 < sz P e ∧ K (.ptr r k g i (off + n.toNat * sz P e))
      | .iptr cs => (0 ≤ n ∧ n < len) ∧ 0 < sz P e ∧ n.toNat * sz P e ≤ cs.length ∧ K (.iptr (cs.drop (n.toNat * sz P e)))
      | _ => False
    | _ => False
  | _ => False

def byteAt (s : ByteArray) (n : Nat) : Int := if h : n < s.size then (s[n].toNat : Int) else 0
def vIndex (P : Program) (T : TypeId) (x i : AV) (K : AV → Prop) : Prop :=
  match i, x with
  | .int _ n, .agg cs => match td P T with
    | .array len e => (0 ≤ n ∧ n < len) ∧ (0 < sz P e ∧ (isAggT P e = false → sz P e = 1) ∧ n.toNat * sz P e + sz P e ≤ cs.length) ∧ K (ldv P e cs (n.toNat * sz P e))
    | _ => False
  | .int _ n, .str s => match td P T with
    | .str => (0 ≤ n ∧ n < s.size) ∧ K (.int .u8 (byteAt s n.toNat))
    | _ => False
  | _, _ => False

def bnd (lo : Option AV) (d : Nat) : Option Int := match lo with | none => some (d : Int) | some (.int _ n) => some n | _ => none
def vSlice (P : Program) (T : TypeId) (x : AV) (lo hi mx : Option AV) (K : AV → Prop) : Prop :=
  match td P T, mx with
  | .slice e, none => match x with
    | .sl kk r k g off len => match bnd lo 0, bnd hi len with
      | some l, some h => (0 ≤ l ∧ l ≤ h ∧ h ≤ len) ∧ (0 < kk ∧ kk = sz P e) ∧ K (.sl kk r k g (off + l.toNat) (h.toNat - l.toNat))
      | _, _ => False
    | .list es => match bnd lo 0, bnd hi es.length with
      | some l, some h => (0 ≤ l ∧ l ≤ h ∧ h ≤ es.length) ∧ (0 < sz P e ∧ (es.all fun x => x.cells.length == sz P e) = true) ∧ K (.list ((es.drop l.toNat).take (h.toNat - l.toNat)))
      | _, _ => False
    | _ => False
  | _, _ => False

def vFieldAddr (P : Program) (T f : Nat) (x : AV) (K : AV → Prop) : Prop :=
  match td P T with
  | .struct fs => f < fs.length ∧ 0 < sz P (fs.getD f (0, 0)).2 ∧ (match x with
      | .ptr r k g i off => K (.ptr r k g i (off + (fs.getD f (0, 0)).1))
      | .iptr cs => (fs.getD f (0, 0)).1 ≤ cs.length ∧ K (.iptr (cs.drop (fs.getD f (0, 0)).1))
      | _ => False)
  | _ => False
def vField (P : Program) (T f : Nat) (x : AV) (K : AV → Prop) : Prop :=
  match x with
  | .agg cs => match td P T with
    | .struct fs => (f < fs.length ∧ 0 < sz P (fs.getD f (0, 0)).2 ∧ (isAggT P (fs.getD f (0, 0)).2 = false → sz P (fs.getD f (0, 0)).2 = 1) ∧ (fs.getD f (0, 0)).1 + sz P (fs.getD f (0, 0)).2 ≤ cs.length) ∧
        K (ldv P (fs.getD f (0, 0)).2 cs (fs.getD f (0, 0)).1)
    | _ => False
  | _ => False
def isAggZ : AV → Bool | .agg _ => true | _ => false
def vBuild (P : Program) (T : Nat) (parts : List (Nat × AV)) (K : AV → Prop) : Prop :=
  match td P T with
  | .struct fs => (tyok P T && isAggZ (zav P T) && fs.all fun f => decide (0 < sz P f.2)) = true ∧ (parts.all fun p => p.2.solid && (p.2.cells.length == sz P (fs.getD p.1 (0, 0)).2) && decide (p.1 < fs.length) && decide ((fs.getD p.1 (0, 0)).1 + p.2.cells.length ≤ sz P T)) = true ∧
        K (parts.foldl (fun v p => stv v (fs.getD p.1 (0, 0)).1 p.2) (zav P T))
  | _ => False
def vLen (P : Program) (T : Nat) (x : AV) (K : AV → Prop) : Prop :=
  match td P T with
  | .slice _ => match x with
    | .sl _ _ _ _ _ n => K (.int .i64 n)
    | .list es => K (.int .i64 es.length)
    | .nil => K (.int .i64 0)
    | _ => False
  | _ => False
def vAssert (P : Program) (T : Nat) (ok : Bool) (x : AV) (K : AV → Prop) : Prop :=
  (match td P T with | .iface | .other => False | _ => True) ∧ (match x with
    | .iface t v => (t = T → bif ok then K (.tuple [v, .bool true]) else K v) ∧ (t ≠ T → ok = true ∧ tyok P T = true ∧ K (.tuple [zav P T, .bool false]))
    | .niface => ok = true ∧ tyok P T = true ∧ K (.tuple [zav P T, .bool false])
    | _ => False)

/-- Operations that leave the store alone. -/
def vq (P : Program) (o : Op) (e : Operand → AV) (S : St) (K : AV → Prop) : Prop :=
  match o with
  | .move x | .assign x => K (e x)
  | .pick c a b => match e c with | .bool v => K (bif v then e a else e b) | _ => False
  | .binOp op T x y _ => vBin P op T x y (e x) (e y) K
  | .unOp op _ x => vUn op (e x) K
  | .convert src dst x => match e x, td P dst, td P src with | .int _ n, .int k, .int _ => K (.int k (k.wrap n)) | _, _, _ => False
  | .makeInterface T x => (match td P T with | .iface | .other => False | _ => True) ∧ K (.iface T (e x))
  | .makeFunc fn first caps => K (.fn fn (first.toList.map e) (caps.toList.map e))
  | .build T parts => vBuild P T (parts.toList.map fun p => (p.1, e p.2)) K
  | .load T a => vLoad P T (e a) S K
  | .nilCheck x => (match e x with | .ptr .. | .iptr _ => True | .fn (.func _) _ _ => True | _ => False) ∧ K (e x)
  | .fieldAddr T x f => vFieldAddr P T f (e x) K
  | .field T x f => vField P T f (e x) K
  | .indexAddr T x i => vIdxAddr P T (e x) (e i) K
  | .index T x i => vIndex P T (e x) (e i) K
  | .slice T x lo hi mx => vSlice P T (e x) (lo.map e) (hi.map e) (mx.map e) K
  | .extract x i => match e x with | .tuple vs => i < vs.length ∧ K (vs.getD i .junk) | _ => False
  | .typeAssert x _ T ok => vAssert P T ok (e x) K
  | .call { callee := .builtin .len, args := xs, argTypes := ts } => match xs.toList, ts.toList with
    | [x], [t] => vLen P t (e x) K
    | _, _ => False
  | .call { callee := .builtin .max, args := xs, argTypes := _ } => match xs.toList with
    | [x, y] => (match e x, e y with | .int k m, .int _ n => K (.int k (if m < n then n else m)) | _, _ => False)
    | _ => False
  | .call { callee := .builtin .min, args := xs, argTypes := _ } => match xs.toList with
    | [x, y] => (match e x, e y with | .int k m, .int _ n => K (.int k (if n < m then n else m)) | _, _ => False)
    | _ => False
  | _ => False

/-- A quiet operation yields a value that fits, and leaves the world alone. -/
def QOp (P : Program) (o : Oper) (e : Operand → AV) (S : St) (K : AV → Prop) : Prop :=
  ∀ (G : Ghost) (ρ : Operand → Value) (w : World), Rel G S w → (∀ x, VR G (e x) (ρ x)) →
    ∃ v av, (execOp ρ o).run P w = .ok (.value v) w ∧ K av ∧ VR G av v

end Go.Gg
