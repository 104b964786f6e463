/- An own logic over the kit's weakest preconditions, part L: the equations by which a formula is computed. Conditions: none. -/
import Derived.Test.YtonbnfgknijpoaaGgK
namespace Go.Gg

/-- One operation, its parts given. -/
def vo (P : Program) (rg : Nat) (d : Option Nat) (op : Op) (t : Env) (S : St) (K : AV → St → Prop) : Prop :=
  bif loud op then vl P rg (d.getD 0) op (ev t) S K else vq P op (ev t) S (fun v => K v S)

section
variable {P : Program} {n rg : Nat} {d : Option Nat} {t : Env} {S : St} {K : AV → St → Prop} {ty : TypeId} {pos : String} {after : Array Edge} {Q : AK} {KE : Env → St → Prop}

@[go_sem ↓] theorem vc_skip : vc P n rg .skip Q t S = Q.nrm t S := rfl
@[go_sem ↓] theorem vc_region {id : Nat} {l : List Oper} : vc P n rg (.region id l.toArray false) Q t S = vops P rg l l t S Q.nrm := rfl
@[go_sem ↓] theorem vc_drawn {id : Nat} {ops : Array Oper} : vc P n rg (.region id ops true) Q t S = vdr P n ops Q.nrm t S := rfl
@[go_sem ↓] theorem vc_cond {c : Operand} {a b : Code} : vc P n rg (.cond c a b) Q t S = (match ev t c with
    | .bool v => (v = true → vc P n rg a Q t S) ∧ (v = false → vc P n rg b Q t S)
    | _ => False) := rfl
@[go_sem ↓] theorem vc_block {id : Nat} {c : Code} : vc P n rg (.block id c) Q t S = vc P n rg c { Q with ex := fun i t S => if i = id then Q.nrm t S else Q.ex i t S } t S := rfl
@[go_sem ↓] theorem vc_exit {id : Nat} : vc P n rg (.exit id) Q t S = Q.ex id t S := rfl
@[go_sem ↓] theorem vc_ret : vc P n rg .ret Q t S = Q.ret t S := rfl

theorem seq_mk {a b : Code} (h : vc P n rg a { Q with nrm := Later (vc P n rg b Q) } t S) : vc P n rg (.seq a b) Q t S := ⟨_, h, fun _ _ h => h⟩
theorem seq_cut {a b : Code} (R : Env → St → Prop) (h : vc P n rg a { Q with nrm := R } t S) (h' : ∀ t S, R t S → Later (vc P n rg b Q) t S) : vc P n rg (.seq a b) Q t S := ⟨R, h, h'⟩
@[congr] theorem gives_congr {R : AV → St → Prop} {v v' : AV} {S S' : St} (hv : v = v') (hS : S = S') : Gives R v S = Gives R v' S' := by rw [hv, hS]
@[congr] theorem later_congr {K : Env → St → Prop} {t : Env} {S : St} : Later K t S = Later K t S := rfl
/-- Once more round. -/
def Again (I : Env → St → Prop) (μ : Env → St → Nat) (m : Nat) (t : Env) (S : St) : Prop := I t S ∧ μ t S < m
@[congr] theorem again_congr {I : Env → St → Prop} {μ : Env → St → Nat} {m : Nat} {t : Env} {S : St} : Again I μ m t S = Again I μ m t S := rfl
theorem again_mk {I : Env → St → Prop} {μ : Env → St → Nat} {m : Nat} {t : Env} {S : St} (h : I t S) (h' : μ t S < m) : Again I μ m t S := ⟨h, h'⟩
theorem loop_mk {c : Code} (I : Env → St → Prop) (μ : Env → St → Nat) (h : I t S) (h' : ∀ t S, I t S → vc P n rg c { Q with nrm := Again I μ (μ t S) } t S) : vc P n rg (.loop c) Q t S := ⟨I, μ, h, h'⟩

@[go_sem ↓] theorem vops_nil {ops : List Oper} : vops P rg ops [] t S KE = KE t S := rfl
@[go_sem ↓] theorem vops_none {ops rest : List Oper} {op : Op} : vops P rg ops (⟨d, op, ty, pos, after, none⟩ :: rest) t S KE = vo P rg d op t S (fun v S' => vops P rg ops rest (updo t d v) S' KE) := rfl
@[go_sem ↓] theorem vops_some {ops rest : List Oper} {op : Op} {j : Nat} {want : Bool} : vops P rg ops (⟨d, op, ty, pos, after, some (j, want)⟩ :: rest) t S KE = (match (ops[j]?).bind (·.dst) with
      | some g => match t g with
         | .bool b => (b = want → vo P rg d op (upd t g (.bool want)) S (fun v S' => vops P rg ops rest (updo (upd t g (.bool want)) d v) S' KE)) ∧
            (b = !want → vops P rg ops rest (updo (upd t g (.bool !want)) d .junk) S KE)
         | _ => False
      | none => False) := rfl

@[go_sem] theorem updo_some {k : Nat} {v : AV} : updo t (some k) v = upd t k v := rfl
@[go_sem] theorem updo_none {v : AV} : updo t none v = t := rfl
@[go_sem] theorem upd_at {k k' : Nat} {v : AV} : upd t k v k' = if k' = k then v else t k' := rfl
@[go_sem] theorem ev_tmp {k : Nat} : ev t (.tmp k) = t k := rfl
@[go_sem] theorem ev_const {v : Value} : ev t (.const v) = ofConst v := rfl
@[go_sem] theorem ev_func {f : FuncId} : ev t (.func f) = .fn (.func f) [] [] := rfl
@[go_sem] theorem ofConst_int {k : IntKind} {m : Int} : ofConst (.int k m) = .int k m := rfl
@[go_sem] theorem ofConst_bool {b : Bool} : ofConst (.bool b) = .bool b := rfl
@[go_sem] theorem ofConst_string {s : ByteArray} : ofConst (.string s) = .str s := rfl
@[go_sem] theorem ofConst_nilp : ofConst (.pointer none) = .nilp := rfl
@[go_sem] theorem ofConst_nil : ofConst (.slice none 0 0) = .nil := rfl
@[go_sem] theorem ofConst_nilmap : ofConst (.map none) = .nilmap := rfl
@[go_sem] theorem ofConst_nilf : ofConst .nilFunc = .nilf := rfl
@[go_sem] theorem ofConst_niface : ofConst .nilIface = .niface := rfl
@[go_sem] theorem ofConst_iface {T : TypeId} {k : IntKind} {m : Int} : ofConst (.iface T (.int k m)) = .iface T (.int k m) := rfl

@[go_sem ↓] theorem vo_move {x : Operand} : vo P rg d (.move x) t S K = K (ev t x) S := rfl
@[go_sem ↓] theorem vo_assign {x : Operand} : vo P rg d (.assign x) t S K = K (ev t x) S := rfl
@[go_sem ↓] theorem vo_pick {c a b : Operand} : vo P rg d (.pick c a b) t S K = (match ev t c with | .bool v => K (bif v then ev t a else ev t b) S | _ => False) := rfl
@[go_sem ↓] theorem vo_bin {op : BinOp} {T T' : TypeId} {x y : Operand} : vo P rg d (.binOp op T x y T') t S K = vBin P op T x y (ev t x) (ev t y) (fun v => K v S) := rfl
@[go_sem ↓] theorem vo_un {op : UnOp} {T : TypeId} {x : Operand} : vo P rg d (.unOp op T x) t S K = vUn op (ev t x) (fun v => K v S) := rfl
@[go_sem ↓] theorem vo_conv {s T : TypeId} {x : Operand} : vo P rg d (.convert s T x) t S K = (match ev t x, td P T, td P s with | .int _ m, .int k, .int _ => K (.int k (k.wrap m)) S | _, _, _ => False) := by
  unfold vo vq; rfl
@[go_sem ↓] theorem vo_iface {T : TypeId} {x : Operand} : vo P rg d (.makeInterface T x) t S K = ((match td P T with | .iface | .other => False | _ => True) ∧ K (.iface T (ev t x)) S) := rfl
@[go_sem ↓] theorem vo_func {fn : Fn} {a b : List Operand} : vo P rg d (.makeFunc fn a.toArray b.toArray) t S K = K (.fn fn (a.map (ev t)) (b.map (ev t))) S := rfl
@[go_sem ↓] theorem vo_build {T : TypeId} {parts : List (Nat × Operand)} : vo P rg d (.build T parts.toArray) t S K = vBuild P T (parts.map fun p => (p.1, ev t p.2)) (fun v => K v S) := rfl
@[go_sem ↓] theorem vo_load {T : TypeId} {x : Operand} : vo P rg d (.load T x) t S K = vLoad P T (ev t x) S (fun v => K v S) := rfl
@[go_sem ↓] theorem vo_nilCheck {x : Operand} : vo P rg d (.nilCheck x) t S K = ((match ev t x with | .ptr .. | .iptr _ => True | .fn (.func _) _ _ => True | _ => False) ∧ K (ev t x) S) := rfl
@[go_sem ↓] theorem vo_fieldAddr {T f : Nat} {x : Operand} : vo P rg d (.fieldAddr T x f) t S K = vFieldAddr P T f (ev t x) (fun v => K v S) := rfl
@[go_sem ↓] theorem vo_field {T f : Nat} {x : Operand} : vo P rg d (.field T x f) t S K = vField P T f (ev t x) (fun v => K v S) := rfl
@[go_sem ↓] theorem vo_indexAddr {T : TypeId} {x i : Operand} : vo P rg d (.indexAddr T x i) t S K = vIdxAddr P T (ev t x) (ev t i) (fun v => K v S) := rfl
@[go_sem ↓] theorem vo_index {T : TypeId} {x i : Operand} : vo P rg d (.index T x i) t S K = vIndex P T (ev t x) (ev t i) (fun v => K v S) := rfl
@[go_sem ↓] theorem vo_slice {T : TypeId} {x : Operand} {lo hi mx : Option Operand} : vo P rg d (.slice T x lo hi mx) t S K = vSlice P T (ev t x) (lo.map (ev t)) (hi.map (ev t)) (mx.map (ev t)) (fun v => K v S) := rfl
@[go_sem ↓] theorem vo_extract {x : Operand} {i : Nat} : vo P rg d (.extract x i) t S K = (match ev t x with | .tuple vs => i < vs.length ∧ K (vs.getD i .junk) S | _ => False) := rfl
@[go_sem ↓] theorem vo_assert {x : Operand} {a T : TypeId} {ok : Bool} : vo P rg d (.typeAssert x a T ok) t S K = vAssert P T ok (ev t x) (fun v => K v S) := rfl
@[go_sem ↓] theorem vo_len {x : Operand} {T : TypeId} : vo P rg d (.call { callee := .builtin .len, args := #[x], argTypes := #[T] }) t S K = vLen P T (ev t x) (fun v => K v S) := rfl
@[go_sem ↓] theorem vo_max {x y : Operand} {ts : Array TypeId} : vo P rg d (.call { callee := .builtin .max, args := #[x, y], argTypes := ts }) t S K =
    (match ev t x, ev t y with | .int k m, .int _ n => K (.int k (if m < n then n else m)) S | _, _ => False) := by unfold vo vq; rfl
@[go_sem ↓] theorem vo_min {x y : Operand} {ts : Array TypeId} : vo P rg d (.call { callee := .builtin .min, args := #[x, y], argTypes := ts }) t S K =
    (match ev t x, ev t y with | .int k m, .int _ n => K (.int k (if n < m then n else m)) S | _, _ => False) := by unfold vo vq; rfl
@[go_sem ↓] theorem vo_alloc {T : TypeId} : vo P rg d (.alloc T) t S K = (tyok P T = true ∧ ∀ g, K (.ptr rg (d.getD 0) g 0 0) (S.set rg (d.getD 0) (.arr (zav P T).cells.length [zav P T]) g)) := rfl
@[go_sem ↓] theorem vo_box {T : TypeId} {x : Operand} : vo P rg d (.box T x) t S K = (((ev t x).solid = true ∧ 0 < (ev t x).cells.length) ∧ ∀ g, K (.ptr rg (d.getD 0) g 0 0) (S.set rg (d.getD 0) (.arr (ev t x).cells.length [ev t x]) g)) := rfl
@[go_sem ↓] theorem vo_store {T : TypeId} {a x : Operand} : vo P rg d (.store T a x) t S K = vStore P T (ev t a) (ev t x) S K := rfl
@[go_sem ↓] theorem vo_make {T : TypeId} {l c : Operand} : vo P rg d (.makeSlice T l c) t S K = vMake P rg (d.getD 0) T (ev t l) (ev t c) S K := rfl
@[go_sem ↓] theorem vo_buildSlice {T : TypeId} {len : Nat} {parts : List (Nat × Operand)} : vo P rg d (.buildSlice T len parts.toArray) t S K = vBuildSlice P rg (d.getD 0) T len (parts.map (·.1)) (parts.map fun p => ev t p.2) S K := rfl
@[go_sem ↓] theorem vo_append {T : TypeId} {b x : Operand} : vo P rg d (.call { callee := .builtin .append, args := #[b, x], argTypes := #[T, T] }) t S K = vAppend P rg (d.getD 0) T (ev t b) (ev t x) S K := by
  have : vo P rg d (.call { callee := .builtin .append, args := #[b, x], argTypes := #[T, T] }) t S K = (T = T ∧ vAppend P rg (d.getD 0) T (ev t b) (ev t x) S K) := rfl
  rw [this]; simp
@[go_sem ↓] theorem vo_call {f : Operand} {xs : List Operand} {ts : Array TypeId} : vo P rg d (.call { callee := .value f, args := xs.toArray, argTypes := ts }) t S K =
    (match ev t f with | .fn (.func g) [] caps => Ctr P g (xs.map (ev t) ++ caps) S K | _ => False) := rfl

@[go_sem] theorem set_at {r k r' k' g : Nat} {o : GObj} : St.set S r k o g r' k' = if r' = r ∧ k' = k then some (o, g) else S r' k' := rfl
theorem set_self {r k g : Nat} {o : GObj} : St.set S r k o g r k = some (o, g) := by simp [St.set]
@[go_sem] theorem clear_set {r k g : Nat} {o : GObj} : (St.set S r k o g).clear r = S.clear r := by
  funext r' k'
  simp only [St.clear, St.set]
  split
  · rfl
  · rename_i h; rw [if_neg (fun hc => h hc.1)]
@[go_sem] theorem set_set {r k g g' : Nat} {o o' : GObj} : (St.set S r k o g).set r k o' g' = S.set r k o' g' := by
  funext a b
  simp only [St.set]
  split <;> rfl
@[go_sem] theorem del_set {r k g : Nat} {o : GObj} : (St.set S r k o g).del r k = S.del r k := by
  funext a b
  simp only [St.set, St.del]
  split <;> rfl
@[go_sem] theorem clear_del {r k : Nat} : (S.del r k).clear r = S.clear r := by
  funext a b
  simp only [St.del, St.clear]
  split
  · rfl
  · rename_i h; rw [if_neg (fun hc => h hc.1)]
theorem del_none {r k : Nat} (h : S r k = none) : S.del r k = S := by
  funext a b
  simp only [St.del]
  split
  · rename_i hc; obtain ⟨rfl, rfl⟩ := hc; exact h.symm
  · rfl
theorem clear_set_other {r k g r' : Nat} {o : GObj} (h : r' ≠ r) : (St.set S r' k o g).clear r = (S.clear r).set r' k o g := by
  funext a b
  simp only [St.clear, St.set]
  by_cases h1 : a = r
  · subst h1; rw [if_pos rfl, if_neg (fun hc => h hc.1.symm), if_pos rfl]
  · rw [if_neg h1, if_neg h1]
theorem clear_self {r : Nat} (h : ∀ k, S r k = none) : S.clear r = S := by
  funext a b
  simp only [St.clear]
  split
  · rename_i e; rw [e, h]
  · rfl
@[go_sem] theorem clear_clear {r : Nat} : (S.clear r).clear r = S.clear r := clear_self (fun k => by simp [St.clear])

@[go_sem] theorem cells_int {k : IntKind} {m : Int} : (AV.int k m).cells = [.int k m] := rfl
@[go_sem] theorem cells_bool {b : Bool} : (AV.bool b).cells = [.bool b] := rfl
@[go_sem] theorem cells_agg {cs : List AV} : (AV.agg cs).cells = cs := rfl
@[go_sem] theorem cells_list {cs : List AV} : (AV.list cs).cells = [.list cs] := rfl
@[go_sem] theorem cells_nil : (AV.nil).cells = [.nil] := rfl
@[go_sem] theorem cells_sl {kk r k g off len : Nat} : (AV.sl kk r k g off len).cells = [.sl kk r k g off len] := rfl
@[go_sem] theorem cells_map {r k g : Nat} : (AV.map r k g).cells = [.map r k g] := rfl
@[go_sem] theorem cells_nilmap : (AV.nilmap).cells = [.nilmap] := rfl
@[go_sem] theorem cells_ptr {r k g i off : Nat} : (AV.ptr r k g i off).cells = [.ptr r k g i off] := rfl
@[go_sem] theorem cells_nilp : (AV.nilp).cells = [.nilp] := rfl
@[go_sem] theorem cells_fn {f : Fn} {a b : List AV} : (AV.fn f a b).cells = [.fn f a b] := rfl
@[go_sem] theorem cells_nilf : (AV.nilf).cells = [.nilf] := rfl
@[go_sem] theorem cells_niface : (AV.niface).cells = [.niface] := rfl
@[go_sem] theorem cells_iface {T : TypeId} {v : AV} : (AV.iface T v).cells = [.iface T v] := rfl

attribute [go_sem ↓] vBits.eq_def vShift.eq_def vBin.eq_def vUn.eq_def vLoad.eq_def vIdxAddr.eq_def vIndex.eq_def vSlice.eq_def vFieldAddr.eq_def vField.eq_def vBuild.eq_def vLen.eq_def vAssert.eq_def vStore.eq_def vMake.eq_def vBuildSlice.eq_def vAppend.eq_def
attribute [go_sem] bnd view ldv isConst stv allOne AV.one AV.solid isAggZ vres vtup retQ
  List.getD_cons_zero List.getD_cons_succ List.length_cons List.length_nil List.map_cons List.map_nil Option.map_some Option.map_none Option.getD_some Option.getD_none List.drop_succ_cons List.drop_zero List.take_succ_cons List.take_zero
  List.cons_append List.nil_append List.append_nil List.all_cons List.all_nil List.foldl_cons List.foldl_nil cond_true cond_false List.getElem?_cons_zero List.getElem?_cons_succ Option.bind_some Option.bind_none List.set_cons_zero List.set_cons_succ List.range_succ List.range_zero beq_self_eq_true List.length_take List.length_drop List.length_append List.length_replicate List.length_set
  eq_self Bool.not_true Bool.not_false Int.toNat_natCast Nat.zero_add Nat.add_zero true_and and_true if_true if_false Bool.and_true Bool.true_and and_self reduceCtorEq false_implies true_implies implies_true List.drop_nil List.take_nil
end

theorem enter' {P : Program} {f : FuncId} {fn : Func} {c : Code} {as : List AV} {S : St} {R : AV → St → Prop} {n : Nat} {rs : List ResultVar} (hm : P.follows .mixedOrders = true) (hf : P.funcs[f]? = some fn) (hb : fn.body = some c)
    (hn : fn.ntmps = n) (hrs : fn.results = rs.toArray) (hok : (callable P f && codeOk n c && decide (as.length ≤ n)) = true)
    (h : ∀ rg, (∀ k, S rg k = none) → vc P n rg c ⟨retQ P rs R, fun _ _ _ => False, retQ P rs R⟩ (args as) S) : Ctr P f as S R := by
  subst hn
  refine enter hm hf hb hok (fun rg hrg => ?_)
  rw [hrs]
  exact h rg hrg

@[go_sem] theorem args_at {as : List AV} {k : Nat} : args as k = as.getD k .junk := rfl

@[go_sem] theorem drop_and {p q : Prop} (h : p) : (p ∧ q) = q := by simp [h]

/-- Integers of one kind as a slice that nobody writes. -/
def intL (k : IntKind) (l : List Int) : List AV := l.map (.int k)
abbrev ints (k : IntKind) (l : List Int) : AV := .list (intL k l)
@[go_sem] theorem intL_len (k : IntKind) (l : List Int) : (intL k l).length = l.length := by simp [intL]
@[go_sem] theorem intL_all (k : IntKind) (l : List Int) (f : AV → Bool) : (intL k l).all f = l.all (fun m => f (.int k m)) := by simp [intL, Function.comp_def]
@[go_sem] theorem all_tt {α : Type} (l : List α) : (l.all fun _ => true) = true := by simp
@[go_sem] theorem intL_take (k : IntKind) (l : List Int) (n : Nat) : (intL k l).take n = intL k (l.take n) := by simp [intL]
@[go_sem] theorem intL_drop (k : IntKind) (l : List Int) (n : Nat) : (intL k l).drop n = intL k (l.drop n) := by simp [intL]
@[go_sem] theorem intL_append (k : IntKind) (l m : List Int) : intL k l ++ intL k m = intL k (l ++ m) := by simp [intL]
@[go_sem] theorem intL_snoc (k : IntKind) (l : List Int) (m : Int) : intL k l ++ [.int k m] = intL k (l ++ [m]) := by simp [intL]
@[go_sem] theorem intL_cons (k : IntKind) (l : List Int) (m : Int) : AV.int k m :: intL k l = intL k (m :: l) := by simp [intL]
@[go_sem] theorem intL_rep (k : IntKind) (n : Nat) (m : Int) : List.replicate n (.int k m) = intL k (List.replicate n m) := by simp [intL]
@[go_sem] theorem intL_set (k : IntKind) (l : List Int) (i : Nat) (m : Int) : (intL k l).set i (.int k m) = intL k (l.set i m) := by simp [intL]
@[go_sem] theorem intL_get (k : IntKind) (l : List Int) (i : Nat) (h : i < l.length) : (intL k l).getD i .junk = .int k (l.getD i 0) := by
  rw [intL, List.getD_eq_getElem?_getD, List.getD_eq_getElem?_getD]; simp [h]
@[go_sem] theorem cast_zero : ((0 : Nat) : Int) = 0 := rfl
@[go_sem] theorem cast_one : ((1 : Nat) : Int) = 1 := rfl
@[go_sem] theorem cast_succ (a : Nat) : ((a + 1 : Nat) : Int) = (a : Int) + 1 := rfl
@[go_sem] theorem toNat_add (a b : Nat) : ((a : Int) + (b : Int)).toNat = a + b := by omega
@[go_sem] theorem toNat_add_one (a : Nat) : ((a : Int) + 1).toNat = a + 1 := by omega
@[go_sem] theorem wrap_u64_id {m : Int} (h0 : 0 ≤ m) (h1 : m ≤ 18446744073709551615) : IntKind.u64.wrap m = m := by simp only [IntKind.wrap, IntKind.bits, IntKind.signed]; simp; omega
@[go_sem] theorem wrap_i64_id {m : Int} (h0 : -9223372036854775808 ≤ m) (h1 : m ≤ 9223372036854775807) : IntKind.i64.wrap m = m := by rw [IntKind.wrap_i64]; omega
theorem wrap_u64 {m : Int} : IntKind.u64.wrap m = m % 18446744073709551616 := by simp [IntKind.wrap, IntKind.bits, IntKind.signed]
@[go_sem] theorem wrap_u32 {m : Int} : IntKind.u32.wrap m = m % 4294967296 := by simp [IntKind.wrap, IntKind.bits, IntKind.signed]
@[go_sem] theorem wrap_u8 {m : Int} : IntKind.u8.wrap m = m % 256 := by simp [IntKind.wrap, IntKind.bits, IntKind.signed]
/-- A fact kept from the arithmetic of a walk. -/
structure Hide (p : Prop) : Prop where
  out : p
/-- A number in an integer. -/
def ix : AV → Nat | .int _ m => m.toNat | _ => 0
@[go_sem] theorem ix_int {k : IntKind} {m : Int} : ix (.int k m) = m.toNat := rfl
end Go.Gg
