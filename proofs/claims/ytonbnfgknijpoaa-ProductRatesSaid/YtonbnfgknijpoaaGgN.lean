/- An own logic over the kit's weakest preconditions, part N: what one operation comes to, told in one form (a condition, a value, one change of the store), and what it looks at. Conditions: none. -/
import Derived.Test.YtonbnfgknijpoaaGgM
namespace Go.Gg

abbrev Key := Nat × Nat
/-- What is read, and what is written. -/
abbrev Eff := List Key × Option Key
abbrev Chg := Option (Nat × Nat × (Nat → GObj × Nat))
def Chg.app (e : Chg) (g : Nat) (S : St) : St := match e with | none => S | some (r, k, f) => S.set r k (f g).1 (f g).2
def Chg.key (e : Chg) : Option Key := e.map fun x => (x.1, x.2.1)
/-- What a call comes to, told ahead: its value, what it looks at, what it writes. -/
structure CR where
  v : AV
  rd : List Key
  wr : Option (Nat × Nat × GObj × Nat)
def CR.app (u : CR) (S : St) : St := match u.wr with | none => S | some (r, k, o, g) => S.set r k o g
def CR.key (u : CR) : Option Key := u.wr.map fun x => (x.1, x.2.1)
def agree (l : List Key) (w : Option Key) (S' S : St) : Prop := (∀ p ∈ l, S' p.1 p.2 = S p.1 p.2) ∧ (∀ p, w = some p → S' p.1 p.2 = S p.1 p.2)
theorem agree.refl (l : List Key) (w : Option Key) (S : St) : agree l w S S := ⟨fun _ _ => rfl, fun _ _ => rfl⟩
theorem agree.trans {l : List Key} {w : Option Key} {S S' S'' : St} (h : agree l w S S') (h' : agree l w S' S'') : agree l w S S'' := ⟨fun p hp => (h.1 p hp).trans (h'.1 p hp), fun p hp => (h.2 p hp).trans (h'.2 p hp)⟩
theorem agree.symm {l : List Key} {w : Option Key} {S S' : St} (h : agree l w S S') : agree l w S' S := ⟨fun p hp => (h.1 p hp).symm, fun p hp => (h.2 p hp).symm⟩

def fpo (rg k : Nat) (u : CR) (o : Op) (e : Operand → AV) : Eff := match o with
  | .load _ x => (match e x with | .ptr r k _ _ _ => [(r, k)] | _ => [], none)
  | .store _ a _ => ([], match e a with | .ptr r k _ _ _ => some (r, k) | _ => none)
  | .alloc _ | .box .. | .makeSlice .. | .buildSlice .. => ([], some (rg, k))
  | .call { callee := .builtin .append, args := xs, argTypes := _ } => match xs.toList with
    | [b, x] => (match e x with | .sl _ r k _ _ _ => [(r, k)] | _ => [], match e b with | .sl _ r k _ _ _ => some (r, k) | _ => some (rg, k))
    | _ => ([], none)
  | .call { callee := .value _, args := _, argTypes := _ } => (u.rd, u.key)
  | _ => ([], none)

/-- One operation, a call's outcome told ahead. -/
def vd (P : Program) (rg : Nat) (u : CR) (d : Option Nat) (o : Op) (e : Operand → AV) (S : St) (K : AV → St → Prop) : Prop := match o with
  | .call { callee := .value f, args := xs, argTypes := _ } => match e f with
    | .fn (.func g) [] caps => (∀ S', agree u.rd u.key S' S → Ctr P g (xs.toList.map e ++ caps) S' (fun v S'' => v = u.v ∧ S'' = u.app S')) ∧ K u.v (u.app S)
    | _ => False
  | _ => bif loud o then vl P rg (d.getD 0) o e S K else vq P o e S (fun v => K v S)

def NF (F : (Operand → AV) → St → (AV → St → Prop) → Prop) (xs : Array Operand) (E : Eff) (e : Operand → AV) (S : St) : Prop :=
  ∃ (c : Prop) (v : Nat → AV) (ch : Chg), (ch.key = none ∨ ch.key = E.2) ∧ ∀ (e' : Operand → AV) (S' : St), (∀ x ∈ xs, e' x = e x) → agree E.1 E.2 S' S → ∀ K, F e' S' K ↔ c ∧ ∀ g, K (v g) (ch.app g S')
def NFQ (F : (AV → Prop) → Prop) : Prop := ∃ (c : Prop) (v : AV), ∀ K, F K ↔ c ∧ K v

theorem nfq_false : NFQ (fun _ => False) := ⟨False, .junk, fun _ => by simp⟩
theorem nfq_one (v : AV) : NFQ (fun K => K v) := ⟨True, v, fun _ => by simp⟩
theorem nfq_and {A : Prop} {F : (AV → Prop) → Prop} (h : NFQ F) : NFQ (fun K => A ∧ F K) := by
  obtain ⟨c, v, h⟩ := h
  exact ⟨A ∧ c, v, fun K => by show A ∧ F K ↔ _; rw [h K, and_assoc]⟩
theorem nfq_cases {A : Prop} {F F' : (AV → Prop) → Prop} (h : NFQ F) (h' : NFQ F') : NFQ (fun K => (A → F K) ∧ (¬ A → F' K)) := by
  obtain ⟨c, v, h⟩ := h
  obtain ⟨c', v', h'⟩ := h'
  by_cases ha : A
  · exact ⟨c, v, fun K => by simp [ha, h K]⟩
  · exact ⟨c', v', fun K => by simp [ha, h' K]⟩

theorem nfq_bits (op : BinOp) (k : IntKind) (m n : Int) : NFQ (vBits op k m n) := by
  show NFQ (fun K => vBits op k m n K)
  cases op <;> simp only [vBits] <;> repeat (first | exact nfq_false | exact nfq_one _ | refine nfq_and ?_)
theorem nfq_shift (op : BinOp) (k : IntKind) (m n : Int) : NFQ (vShift op k m n) := by
  show NFQ (fun K => vShift op k m n K)
  cases op <;> simp only [vShift] <;> repeat (first | exact nfq_false | exact nfq_one _ | refine nfq_and ?_)
theorem nfq_bin (P : Program) (op : BinOp) (T : TypeId) (x y : Operand) (a b : AV) : NFQ (vBin P op T x y a b) := by
  show NFQ (fun K => vBin P op T x y a b K)
  cases a <;> cases b <;> simp only [vBin] <;> first
    | exact nfq_false
    | (cases op <;> repeat (first | exact nfq_false | exact nfq_one _ | exact nfq_bits .. | exact nfq_shift .. | refine nfq_and ?_))
theorem nfq_un (op : UnOp) (a : AV) : NFQ (vUn op a) := by
  show NFQ (fun K => vUn op a K)
  cases op <;> cases a <;> simp only [vUn] <;> repeat (first | exact nfq_false | exact nfq_one _ | refine nfq_and ?_)
theorem nfq_load (P : Program) (T : TypeId) (a : AV) (S : St) : NFQ (vLoad P T a S) := by
  show NFQ (fun K => vLoad P T a S K)
  cases a with
  | ptr r k g i off =>
    simp only [vLoad]
    cases S r k with
    | none => exact nfq_false
    | some p =>
      obtain ⟨o, g'⟩ := p
      cases o <;> simp only [] <;> repeat (first | exact nfq_false | exact nfq_one _ | refine nfq_and ?_)
  | iptr cs => simp only [vLoad]; exact nfq_and (nfq_one _)
  | _ => exact nfq_false
theorem nfq_idxAddr (P : Program) (T : TypeId) (x i : AV) : NFQ (vIdxAddr P T x i) := by
  show NFQ (fun K => vIdxAddr P T x i K)
  cases i <;> simp only [vIdxAddr] <;> try exact nfq_false
  cases td P T <;> simp only [] <;> try exact nfq_false
  all_goals (cases x <;> simp only [] <;> repeat (first | exact nfq_false | exact nfq_one _ | refine nfq_and ?_))
theorem nfq_index (P : Program) (T : TypeId) (x i : AV) : NFQ (vIndex P T x i) := by
  show NFQ (fun K => vIndex P T x i K)
  cases i <;> simp only [vIndex] <;> try exact nfq_false
  cases x <;> simp only [] <;> try exact nfq_false
  all_goals (cases td P T <;> simp only [] <;> repeat (first | exact nfq_false | exact nfq_one _ | refine nfq_and ?_))
theorem nfq_slice (P : Program) (T : TypeId) (x : AV) (lo hi mx : Option AV) : NFQ (vSlice P T x lo hi mx) := by
  show NFQ (fun K => vSlice P T x lo hi mx K)
  unfold vSlice
  cases td P T <;> cases mx <;> simp only [] <;> try exact nfq_false
  cases x <;> simp only [] <;> try exact nfq_false
  · rename_i es
    cases bnd lo 0 <;> cases bnd hi es.length <;> simp only [] <;> repeat (first | exact nfq_false | exact nfq_one _ | refine nfq_and ?_)
  · rename_i kk r k g off len
    cases bnd lo 0 <;> cases bnd hi len <;> simp only [] <;> repeat (first | exact nfq_false | exact nfq_one _ | refine nfq_and ?_)
theorem nfq_fieldAddr (P : Program) (T f : Nat) (x : AV) : NFQ (vFieldAddr P T f x) := by
  show NFQ (fun K => vFieldAddr P T f x K)
  unfold vFieldAddr
  cases td P T <;> simp only [] <;> try exact nfq_false
  cases x <;> simp only [] <;> repeat (first | exact nfq_false | exact nfq_one _ | refine nfq_and ?_)
theorem nfq_field (P : Program) (T f : Nat) (x : AV) : NFQ (vField P T f x) := by
  show NFQ (fun K => vField P T f x K)
  cases x <;> simp only [vField] <;> try exact nfq_false
  cases td P T <;> simp only [] <;> repeat (first | exact nfq_false | exact nfq_one _ | refine nfq_and ?_)
theorem nfq_build (P : Program) (T : Nat) (l : List (Nat × AV)) : NFQ (vBuild P T l) := by
  show NFQ (fun K => vBuild P T l K)
  unfold vBuild
  cases td P T <;> simp only [] <;> repeat (first | exact nfq_false | exact nfq_one _ | refine nfq_and ?_)
theorem nfq_len (P : Program) (T : Nat) (x : AV) : NFQ (vLen P T x) := by
  show NFQ (fun K => vLen P T x K)
  unfold vLen
  cases td P T <;> simp only [] <;> try exact nfq_false
  cases x <;> simp only [] <;> repeat (first | exact nfq_false | exact nfq_one _ | refine nfq_and ?_)
theorem nfq_assert (P : Program) (T : Nat) (ok : Bool) (x : AV) : NFQ (vAssert P T ok x) := by
  show NFQ (fun K => vAssert P T ok x K)
  unfold vAssert
  refine nfq_and ?_
  cases x <;> simp only [] <;> first
    | (refine nfq_cases ?_ ?_
       · cases ok <;> exact nfq_one _
       · repeat (first | exact nfq_false | exact nfq_one _ | refine nfq_and ?_))
    | repeat (first | exact nfq_false | exact nfq_one _ | refine nfq_and ?_)

theorem nf_quiet {F : (Operand → AV) → St → (AV → Prop) → Prop} {xs : Array Operand} {E : Eff} {e : Operand → AV} {S : St} (hc : ∀ e' S', (∀ x ∈ xs, e' x = e x) → agree E.1 E.2 S' S → F e' S' = F e S) (h : NFQ (F e S)) :
    NF (fun e S K => F e S (fun v => K v S)) xs E e S := by
  obtain ⟨c, v, h⟩ := h
  refine ⟨c, fun _ => v, none, .inl rfl, fun e' S' he hS K => ?_⟩
  show F e' S' (fun v => K v S') ↔ _
  rw [hc e' S' he hS, h]
  simp [Chg.app]

theorem vLoad_congr {P : Program} {T : TypeId} {a : AV} {S S' : St} (h : ∀ r k g i off, a = .ptr r k g i off → S' r k = S r k) : vLoad P T a S' = vLoad P T a S := by
  funext K
  cases a <;> simp only [vLoad]
  rename_i r k g i off
  rw [h r k g i off rfl]
theorem view_congr {a : AV} {S S' : St} (h : ∀ kk r k g off n, a = .sl kk r k g off n → S' r k = S r k) : view S' a = view S a := by
  cases a <;> simp only [view]
  rename_i kk r k g off n
  rw [h kk r k g off n rfl]

theorem nf_false {xs : Array Operand} {E : Eff} {e : Operand → AV} {S : St} : NF (fun _ _ _ => False) xs E e S := ⟨False, fun _ => .junk, none, .inl rfl, fun _ _ _ _ _ => by simp⟩

theorem nf_op (P : Program) (rg : Nat) (u : CR) (d : Option Nat) (o : Op) (e : Operand → AV) (S : St) : NF (fun e S K => vd P rg u d o e S K) o.operands (fpo rg (d.getD 0) u o e) e S := by
  cases o with
  | move x => exact nf_quiet (F := fun e _ K => K (e x)) (fun e' S' he _ => by simp only [he x (by simp [Op.operands])]) (nfq_one _)
  | assign x => exact nf_quiet (F := fun e _ K => K (e x)) (fun e' S' he _ => by simp only [he x (by simp [Op.operands])]) (nfq_one _)
  | pick c a b =>
    refine nf_quiet (F := fun e _ K => match e c with | .bool v => K (bif v then e a else e b) | _ => False) (fun e' S' he _ => by simp only [he c (by simp [Op.operands]), he a (by simp [Op.operands]), he b (by simp [Op.operands])]) ?_
    cases e c <;> first | exact nfq_one _ | exact nfq_false
  | binOp op T x y T' => exact nf_quiet (F := fun e _ K => vBin P op T x y (e x) (e y) K) (fun e' S' he _ => by simp only [he x (by simp [Op.operands]), he y (by simp [Op.operands])]) (nfq_bin ..)
  | unOp op T x => exact nf_quiet (F := fun e _ K => vUn op (e x) K) (fun e' S' he _ => by simp only [he x (by simp [Op.operands])]) (nfq_un ..)
  | convert s T x =>
    refine nf_quiet (F := fun e _ K => match e x, td P T, td P s with | .int _ n, .int k, .int _ => K (.int k (k.wrap n)) | _, _, _ => False) (fun e' S' he _ => by simp only [he x (by simp [Op.operands])]) ?_
    generalize e x = a
    generalize td P T = b
    generalize td P s = c
    cases a <;> try exact nfq_false
    cases b <;> try exact nfq_false
    cases c <;> first | exact nfq_one _ | exact nfq_false
  | makeInterface T x =>
    exact nf_quiet (F := fun e _ K => (match td P T with | .iface | .other => False | _ => True) ∧ K (.iface T (e x))) (fun e' S' he _ => by simp only [he x (by simp [Op.operands])]) (nfq_and (nfq_one _))
  | makeFunc fn first caps =>
    refine nf_quiet (F := fun e _ K => K (.fn fn (first.toList.map e) (caps.toList.map e))) (fun e' S' he _ => ?_) (nfq_one _)
    have h1 : first.toList.map e' = first.toList.map e := List.map_congr_left fun x hx => he x (by simp [Op.operands] at hx ⊢; exact .inl hx)
    have h2 : caps.toList.map e' = caps.toList.map e := List.map_congr_left fun x hx => he x (by simp [Op.operands] at hx ⊢; exact .inr hx)
    simp only [h1, h2]
  | build T parts =>
    refine nf_quiet (F := fun e _ K => vBuild P T (parts.toList.map fun p => (p.1, e p.2)) K) (fun e' S' he _ => ?_) (nfq_build ..)
    have h1 : (parts.toList.map fun p => (p.1, e' p.2)) = parts.toList.map fun p => (p.1, e p.2) := List.map_congr_left fun p hp => by rw [he p.2 (by simp [Op.operands] at hp ⊢; exact ⟨_, hp⟩)]
    simp only [h1]
  | load T x =>
    refine nf_quiet (F := fun e S K => vLoad P T (e x) S K) (fun e' S' he hS => ?_) (nfq_load ..)
    have h1 := he x (by simp [Op.operands])
    simp only [h1]
    rw [vLoad_congr (S := S)]
    intro r k g i off hx
    have h2 := hS.1 (r, k)
    simp only [fpo, hx] at h2
    exact h2 (by simp)
  | nilCheck x =>
    exact nf_quiet (F := fun e _ K => (match e x with | .ptr .. | .iptr _ => True | .fn (.func _) _ _ => True | _ => False) ∧ K (e x)) (fun e' S' he _ => by simp only [he x (by simp [Op.operands])]) (nfq_and (nfq_one _))
  | fieldAddr T x f => exact nf_quiet (F := fun e _ K => vFieldAddr P T f (e x) K) (fun e' S' he _ => by simp only [he x (by simp [Op.operands])]) (nfq_fieldAddr ..)
  | field T x f => exact nf_quiet (F := fun e _ K => vField P T f (e x) K) (fun e' S' he _ => by simp only [he x (by simp [Op.operands])]) (nfq_field ..)
  | indexAddr T x i => exact nf_quiet (F := fun e _ K => vIdxAddr P T (e x) (e i) K) (fun e' S' he _ => by simp only [he x (by simp [Op.operands]), he i (by simp [Op.operands])]) (nfq_idxAddr ..)
  | index T x i => exact nf_quiet (F := fun e _ K => vIndex P T (e x) (e i) K) (fun e' S' he _ => by simp only [he x (by simp [Op.operands]), he i (by simp [Op.operands])]) (nfq_index ..)
  | slice T x lo hi mx =>
    refine nf_quiet (F := fun e _ K => vSlice P T (e x) (lo.map e) (hi.map e) (mx.map e) K) (fun e' S' he _ => ?_) (nfq_slice ..)
    have h1 : lo.map e' = lo.map e := by cases lo with | none => rfl | some y => simp only [Option.map_some, he y (by simp [Op.operands])]
    have h2 : hi.map e' = hi.map e := by cases hi with | none => rfl | some y => simp only [Option.map_some, he y (by simp [Op.operands])]
    have h3 : mx.map e' = mx.map e := by cases mx with | none => rfl | some y => simp only [Option.map_some, he y (by simp [Op.operands])]
    simp only [h1, h2, h3, he x (by simp [Op.operands])]
  | extract x i =>
    refine nf_quiet (F := fun e _ K => match e x with | .tuple vs => i < vs.length ∧ K (vs.getD i .junk) | _ => False) (fun e' S' he _ => by simp only [he x (by simp [Op.operands])]) ?_
    cases e x <;> first | exact nfq_and (nfq_one _) | exact nfq_false
  | typeAssert x a T ok => exact nf_quiet (F := fun e _ K => vAssert P T ok (e x) K) (fun e' S' he _ => by simp only [he x (by simp [Op.operands])]) (nfq_assert ..)
  | alloc T => exact ⟨tyok P T = true, fun g => .ptr rg (d.getD 0) g 0 0, some (rg, d.getD 0, fun g => (.arr (zav P T).cells.length [zav P T], g)), .inr rfl, fun _ _ _ _ _ => Iff.rfl⟩
  | box T x =>
    refine ⟨(e x).solid = true ∧ 0 < (e x).cells.length, fun g => .ptr rg (d.getD 0) g 0 0, some (rg, d.getD 0, fun g => (.arr (e x).cells.length [e x], g)), .inr rfl, fun e' S' he _ K => ?_⟩
    show (((e' x).solid = true ∧ 0 < (e' x).cells.length) ∧ ∀ g, K (.ptr rg (d.getD 0) g 0 0) (S'.set rg (d.getD 0) (.arr (e' x).cells.length [e' x]) g)) ↔ _
    rw [he x (by simp [Op.operands])]
    exact Iff.rfl
  | store T a x =>
    show NF (fun e S K => vStore P T (e a) (e x) S K) _ _ _ _
    cases ha : e a with
    | ptr r k g i off =>
      cases hS : S r k with
      | none =>
        refine ⟨False, fun _ => .junk, none, .inl rfl, fun e' S' he hS' K => ?_⟩
        have h1 := hS'.2 (r, k) (by simp [fpo, ha])
        simp only [he a (by simp [Op.operands]), vStore, ha, h1, hS, false_and]
      | some p =>
        obtain ⟨ob, g'⟩ := p
        cases ob with
        | arr kk es =>
          refine ⟨g' = g ∧ i < es.length ∧ 0 < sz P T ∧ (e x).cells.length = sz P T ∧ off + sz P T ≤ kk ∧ allOne (e x).cells = true, fun _ => .junk, some (r, k, fun _ => (.arr kk (es.set i (stv (es.getD i .junk) off (e x))), g)), .inr (by simp [fpo, ha, Chg.key]), fun e' S' he hS' K => ?_⟩
          have h1 := hS'.2 (r, k) (by simp [fpo, ha])
          simp only [he a (by simp [Op.operands]), he x (by simp [Op.operands]), vStore, ha, h1, hS, Chg.app, forall_const]
        | mp sh n m =>
          refine ⟨False, fun _ => .junk, none, .inl rfl, fun e' S' he hS' K => ?_⟩
          have h1 := hS'.2 (r, k) (by simp [fpo, ha])
          simp only [he a (by simp [Op.operands]), vStore, ha, h1, hS, false_and]
    | _ =>
      refine ⟨False, fun _ => .junk, none, .inl rfl, fun e' S' he hS' K => ?_⟩
      simp only [he a (by simp [Op.operands]), vStore, ha, false_and]
  | makeSlice T l c =>
    show NF (fun e S K => vMake P rg (d.getD 0) T (e l) (e c) S K) _ _ _ _
    unfold vMake
    cases hd : td P T with
    | slice el =>
      cases hl : e l with
      | int k1 n =>
        cases hc : e c with
        | int k2 m =>
          refine ⟨(0 ≤ n ∧ n ≤ m ∧ (bts P el : Int) * m ≤ 281474976710656 ∧ m ≤ 9223372036854775807) ∧ tyok P el = true, fun g => .sl (zav P el).cells.length rg (d.getD 0) g 0 n.toNat, some (rg, d.getD 0, fun g => (.arr (zav P el).cells.length (List.replicate n.toNat (zav P el)), g)), .inr rfl, fun e' S' he hS' K => ?_⟩
          simp only [he l (by simp [Op.operands]), he c (by simp [Op.operands]), hl, hc, Chg.app, and_assoc]
        | _ => exact ⟨False, fun _ => .junk, none, .inl rfl, fun e' S' he hS' K => by simp only [he l (by simp [Op.operands]), he c (by simp [Op.operands]), hl, hc, false_and]⟩
      | _ => exact ⟨False, fun _ => .junk, none, .inl rfl, fun e' S' he hS' K => by simp only [he l (by simp [Op.operands]), hl, false_and]⟩
    | _ => exact nf_false
  | buildSlice T len parts =>
    show NF (fun e S K => vBuildSlice P rg (d.getD 0) T len (parts.toList.map (·.1)) (parts.toList.map fun p => e p.2) S K) _ _ _ _
    unfold vBuildSlice
    cases hd : td P T with
    | slice el =>
      refine ⟨((parts.toList.map (·.1)) == List.range len) = true ∧ (parts.toList.map fun p => e p.2).length = len ∧ tyok P el = true ∧ len * (zav P el).cells.length ≤ 16777216 ∧ ((parts.toList.map fun p => e p.2).all fun x => x.solid && (x.cells.length == (zav P el).cells.length)) = true,
        fun g => .sl (zav P el).cells.length rg (d.getD 0) g 0 len, some (rg, d.getD 0, fun g => (.arr (zav P el).cells.length (parts.toList.map fun p => e p.2), g)), .inr rfl, fun e' S' he hS' K => ?_⟩
      have h1 : (parts.toList.map fun p => e' p.2) = parts.toList.map fun p => e p.2 := List.map_congr_left fun p hp => he p.2 (by simp [Op.operands] at hp ⊢; exact ⟨_, hp⟩)
      simp only [h1, Chg.app]
    | _ => exact nf_false
  | call c =>
    obtain ⟨callee, xs, ts⟩ := c
    cases callee with
    | invoke r m => exact nf_false
    | value f =>
      show NF (fun e S K => match e f with
        | .fn (.func g) [] caps => (∀ S', agree u.rd u.key S' S → Ctr P g (xs.toList.map e ++ caps) S' (fun v S'' => v = u.v ∧ S'' = u.app S')) ∧ K u.v (u.app S)
        | _ => False) _ _ _ _
      have hx : ∀ e' : Operand → AV, (∀ x ∈ Op.operands (.call { callee := .value f, args := xs, argTypes := ts }), e' x = e x) → e' f = e f ∧ xs.toList.map e' = xs.toList.map e := fun e' he => by
        refine ⟨he f (by simp [Op.operands, Call.operands]), List.map_congr_left fun x hx => he x ?_⟩
        simp only [Op.operands, Call.operands]
        simp at hx ⊢
        exact .inr hx
      generalize hf : e f = ef
      by_cases hq : ∃ g caps, ef = .fn (.func g) [] caps
      · obtain ⟨g, caps, rfl⟩ := hq
        refine ⟨∀ S', agree u.rd u.key S' S → Ctr P g (xs.toList.map e ++ caps) S' (fun v S'' => v = u.v ∧ S'' = u.app S'), fun _ => u.v, u.wr.map (fun x => (x.1, x.2.1, fun _ => (x.2.2.1, x.2.2.2))), ?_, fun e' S' he hS' K => ?_⟩
        · right; show _ = u.key; unfold CR.key Chg.key; cases u.wr <;> rfl
        · obtain ⟨h1, h2⟩ := hx e' he
          simp only [h1, h2, hf]
          have hA : ∀ X : St, agree u.rd u.key X S' ↔ agree u.rd u.key X S := fun X => ⟨fun h => h.trans hS', fun h => h.trans hS'.symm⟩
          have hB : ∀ g, Chg.app (u.wr.map (fun x => (x.1, x.2.1, fun _ => (x.2.2.1, x.2.2.2)))) g S' = u.app S' := fun g => by unfold CR.app Chg.app; cases u.wr <;> rfl
          simp only [hA, hB, forall_const]
      · refine ⟨False, fun _ => .junk, none, .inl rfl, fun e' S' he hS' K => ?_⟩
        obtain ⟨h1, h2⟩ := hx e' he
        simp only [h1, hf, false_and, iff_false]
        split
        · rename_i g caps; exact fun _ => hq ⟨_, _, rfl⟩
        · simp
    | builtin b =>
      obtain ⟨l, rfl⟩ : ∃ l : List Operand, xs = l.toArray := ⟨xs.toList, by simp⟩
      obtain ⟨ts, rfl⟩ : ∃ l : List TypeId, ts = l.toArray := ⟨ts.toList, by simp⟩
      cases b with
      | append =>
        rcases l with _ | ⟨b, _ | ⟨x, _ | ⟨_, _⟩⟩⟩ <;> try exact nf_false
        rcases ts with _ | ⟨T, _ | ⟨T', _ | ⟨_, _⟩⟩⟩ <;> try exact nf_false
        show NF (fun e S K => T = T' ∧ vAppend P rg (d.getD 0) T (e b) (e x) S K) _ _ _ _
        have hE : fpo rg (d.getD 0) u (.call { callee := .builtin .append, args := [b, x].toArray, argTypes := [T, T'].toArray }) e = (match e x with | .sl _ r k _ _ _ => [(r, k)] | _ => [], match e b with | .sl _ r k _ _ _ => some (r, k) | _ => some (rg, d.getD 0)) := rfl
        rw [hE]
        have hop : ∀ e' : Operand → AV, (∀ y ∈ Op.operands (.call { callee := .builtin .append, args := [b, x].toArray, argTypes := [T, T'].toArray }), e' y = e y) → e' b = e b ∧ e' x = e x := fun e' he => ⟨he b (by simp [Op.operands, Call.operands]), he x (by simp [Op.operands, Call.operands])⟩
        have hno : (∀ (e' : Operand → AV) (S' : St), (∀ y ∈ Op.operands (.call { callee := .builtin .append, args := [b, x].toArray, argTypes := [T, T'].toArray }), e' y = e y) → agree (match e x with | .sl _ r k _ _ _ => [(r, k)] | _ => []) (match e b with | .sl _ r k _ _ _ => some (r, k) | _ => some (rg, d.getD 0)) S' S → ∀ K, ¬ (T = T' ∧ vAppend P rg (d.getD 0) T (e' b) (e' x) S' K)) →
            NF (fun e S K => T = T' ∧ vAppend P rg (d.getD 0) T (e b) (e x) S K) (Op.operands (.call { callee := .builtin .append, args := [b, x].toArray, argTypes := [T, T'].toArray })) (match e x with | .sl _ r k _ _ _ => [(r, k)] | _ => [], match e b with | .sl _ r k _ _ _ => some (r, k) | _ => some (rg, d.getD 0)) e S :=
          fun h => ⟨False, fun _ => .junk, none, .inl rfl, fun e' S' he hS' K => by simp only [false_and, iff_false]; exact h e' S' he hS' K⟩
        have hview : ∀ S', agree (match e x with | .sl _ r k _ _ _ => [(r, k)] | _ => []) (match e b with | .sl _ r k _ _ _ => some (r, k) | _ => some (rg, d.getD 0)) S' S → view S' (e x) = view S (e x) := fun S' hS' => view_congr fun kk r k g off n hx => by
          have := hS'.1 (r, k)
          simp only [hx] at this
          exact this (by simp)
        cases hd : td P T with
        | slice el =>
          cases hv : view S (e x) with
          | none =>
            exact hno fun e' S' he hS' K h => by
              obtain ⟨h1, h2⟩ := hop e' he
              simp only [vAppend, hd, h2, hview S' hS', hv] at h
              exact h.2
          | some ys =>
            cases hb : e b with
            | nil =>
              refine ⟨T = T' ∧ (tyok P el = true ∧ (ys.all fun x => allOne x.cells && (x.cells.length == (zav P el).cells.length)) = true) ∧ ys.length * bts P el ≤ 140737488355328 ∧ ys.length ≤ 9223372036854775807,
                fun g => .sl (zav P el).cells.length rg (d.getD 0) g 0 ys.length, some (rg, d.getD 0, fun g => (.arr (zav P el).cells.length ys, g)), .inr rfl, fun e' S' he hS' K => ?_⟩
              obtain ⟨h1, h2⟩ := hop e' he
              rw [hb] at h1
              have h3 := hview S' (by rw [hb]; exact hS')
              simp only [vAppend, hd, h2, h3, hv, h1, Chg.app, and_assoc]
            | sl kk r k' g off n =>
              cases hS : S r k' with
              | none =>
                exact hb ▸ hno fun e' S' he hS' K h => by
                  obtain ⟨h1, h2⟩ := hop e' he
                  have h4 := hS'.2 (r, k') (by simp only [hb])
                  simp only [vAppend, hd, h2, hview S' hS', hv, h1, hb, h4, hS] at h
                  exact h.2.2
              | some p =>
                obtain ⟨ob, g'⟩ := p
                cases ob with
                | mp sh a m =>
                  exact hb ▸ hno fun e' S' he hS' K h => by
                    obtain ⟨h1, h2⟩ := hop e' he
                    have h4 := hS'.2 (r, k') (by simp only [hb])
                    simp only [vAppend, hd, h2, hview S' hS', hv, h1, hb, h4, hS] at h
                    exact h.2.2
                | arr kk' es =>
                  refine ⟨T = T' ∧ (tyok P el = true ∧ (ys.all fun x => allOne x.cells && (x.cells.length == (zav P el).cells.length)) = true) ∧ (g' = g ∧ off = 0 ∧ kk' = kk ∧ kk = (zav P el).cells.length ∧ n = es.length) ∧ ((es.length + ys.length) * bts P el ≤ 140737488355328 ∧ es.length + ys.length ≤ 9223372036854775807),
                    fun g => .sl kk r k' g 0 (es.length + ys.length), some (r, k', fun g => (.arr kk (es ++ ys), g)), .inr rfl, fun e' S' he hS' K => ?_⟩
                  obtain ⟨h1, h2⟩ := hop e' he
                  rw [hb] at h1
                  have h3 := hview S' (by rw [hb]; exact hS')
                  have h4 := hS'.2 (r, k') rfl
                  simp only [vAppend, hd, h2, h3, hv, h1, h4, hS, Chg.app, and_assoc]
            | _ =>
              exact hb ▸ hno fun e' S' he hS' K h => by
                obtain ⟨h1, h2⟩ := hop e' he
                simp only [vAppend, hd, h2, hview S' hS', hv, h1, hb] at h
                exact h.2.2
        | _ =>
          exact hno fun e' S' he hS' K h => by
            simp only [vAppend, hd] at h
            exact h.2
      | len =>
        rcases l with _ | ⟨x, _ | ⟨_, _⟩⟩ <;> try exact nf_false
        rcases ts with _ | ⟨T, _ | ⟨_, _⟩⟩ <;> try exact nf_false
        exact nf_quiet (F := fun e _ K => vLen P T (e x) K) (fun e' S' he _ => by simp only [he x (by simp [Op.operands, Call.operands])]) (nfq_len ..)
      | max =>
        rcases l with _ | ⟨x, _ | ⟨y, _ | ⟨_, _⟩⟩⟩ <;> try exact nf_false
        refine nf_quiet (F := fun e _ K => (match e x, e y with | .int k m, .int _ n => K (.int k (if m < n then n else m)) | _, _ => False)) (fun e' S' he _ => by simp only [he x (by simp [Op.operands, Call.operands]), he y (by simp [Op.operands, Call.operands])]) ?_
        generalize e x = a
        generalize e y = b
        cases a <;> cases b <;> first | exact nfq_one _ | exact nfq_false
      | min =>
        rcases l with _ | ⟨x, _ | ⟨y, _ | ⟨_, _⟩⟩⟩ <;> try exact nf_false
        refine nf_quiet (F := fun e _ K => (match e x, e y with | .int k m, .int _ n => K (.int k (if n < m then n else m)) | _, _ => False)) (fun e' S' he _ => by simp only [he x (by simp [Op.operands, Call.operands]), he y (by simp [Op.operands, Call.operands])]) ?_
        generalize e x = a
        generalize e y = b
        cases a <;> cases b <;> first | exact nfq_one _ | exact nfq_false
      | _ => exact nf_false
  | _ => exact nf_false
end Go.Gg
