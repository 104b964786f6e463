/- An own logic over the kit's weakest preconditions, part P: a region that draws its order, by one walk. Conditions: none. -/
import Derived.Test.YtonbnfgknijpoaaGgO
namespace Go.Gg

def lg (j : Nat) (E : Eff) (log : Log) : Log := match E with | ([], none) => log | E => (j, E) :: log

def vdT (P : Program) (rg : Nat) (us : Nat → CR) (ops : List Oper) : List Oper → Nat → Log → Env → St → (Env → St → Prop) → Prop
  | [], _, _, t, S, K => K t S
  | o :: rest, j, log, t, S, K => match o.guard with
    | none => cf ops log j (fpo rg (o.dst.getD 0) (us j) o.op (ev t)) ∧ vd P rg (us j) o.dst o.op (ev t) S (fun v S' => vdT P rg us ops rest (j + 1) (lg j (fpo rg (o.dst.getD 0) (us j) o.op (ev t)) log) (updo t o.dst v) S' K)
    | some (g, want) => match (ops[g]?).bind (·.dst) with
      | some d => match t d with
        | .bool b => (b = want → cf ops log j (fpo rg (o.dst.getD 0) (us j) o.op (ev (upd t d (.bool want)))) ∧ vd P rg (us j) o.dst o.op (ev (upd t d (.bool want))) S
              (fun v S' => vdT P rg us ops rest (j + 1) (lg j (fpo rg (o.dst.getD 0) (us j) o.op (ev (upd t d (.bool want)))) log) (updo (upd t d (.bool want)) o.dst v) S' K)) ∧
            (b = !want → vdT P rg us ops rest (j + 1) log (updo (upd t d (.bool !want)) o.dst .junk) S K)
        | _ => False
      | none => False

section
variable {P : Program} {rg : Nat} {us : Nat → CR} {ops : List Oper} {K : Env → St → Prop}
theorem cf_empty {log : Log} {j : Nat} : cf ops log j ([], none) := fun p _ => .inr (by
  obtain ⟨i, r, w⟩ := p
  cases w <;> simp [apartE])
theorem vdT_cons {o : Oper} {rest : List Oper} {j : Nat} {log : Log} {t : Env} {S : St} (h : vdT P rg us ops (o :: rest) j log t S K) :
    cf ops log j (fpG rg us ops j o t) ∧ vdG P rg us ops j o t S (fun t' S' => vdT P rg us ops rest (j + 1) (lg j (fpG rg us ops j o t) log) t' S' K) := by
  unfold vdT at h
  unfold fpG vdG
  cases hg : o.guard with
  | none => simp only [hg] at h; exact h
  | some gw =>
    obtain ⟨g, want⟩ := gw
    simp only [hg] at h
    simp only []
    cases hd : (ops[g]?).bind (·.dst) with
    | none => simp only [hd] at h
    | some d =>
      simp only [hd] at h
      simp only []
      cases hb : t d with
      | bool b =>
        simp only [hb] at h
        simp only []
        by_cases hw : b = want
        · have e : upd t d (.bool want) = t := upd_same (by rw [hb, hw])
          have := h.1 hw
          rw [e] at this
          simp only [if_pos hw]
          exact this
        · have hbn : b = !want := by cases b <;> cases want <;> simp_all
          have e : upd t d (.bool !want) = t := upd_same (by rw [hb, hbn])
          have := h.2 hbn
          rw [e] at this
          simp only [if_neg hw]
          exact ⟨cf_empty, this⟩
      | _ => simp only [hb] at h

theorem ord_lt {n : Nat} (hok : drawOk n ops = true) {i : Nat} (hi : i < ops.length) : ∀ j, j < ops.length → ordB ops i j = true → i < j := by
  intro j
  induction j using Nat.strongRecOn with
  | _ j ih =>
    intro hj hij
    have hoj : ops[j]? = some ops[j] := List.getElem?_eq_getElem hj
    obtain ⟨e, he, hb, h⟩ := ((drawOk_at hok hoj).2 i hi).1 hij
    have hlt := (drawOk_at hok hoj).1 e he hb
    rcases h with rfl | h
    · exact hlt
    · exact Nat.lt_trans (ih e.on hlt (by omega) h) hlt

theorem vdT_AD {n : Nat} (hok : drawOk n ops = true) : ∀ (rest : List Oper) (j : Nat) (log L : Log) (t : Env) (S : St) (listed : Array Bool), ops.drop j = rest → j ≤ ops.length → listed.size = ops.length → (∀ i, listed.getD i false = true ↔ i < j) →
    (∀ p ∈ L, p ∈ log ∨ p.2 = ([], none)) → vdT P rg us ops rest j log t S K → AD P rg us ops K L rest.length listed t S := by
  intro rest
  induction rest with
  | nil =>
    intro j log L t S listed hrest hj hsz hl hL h
    have hjl : ops.length ≤ j := by simpa using hrest
    refine ⟨?_, h⟩
    cases hr : Region.ready .any ops.toArray listed with
    | nil => rfl
    | cons k ks =>
      have hk : k ∈ Region.ready .any ops.toArray listed := by rw [hr]; simp
      obtain ⟨h0, o, ho, _⟩ := mem_ready.1 hk
      have hkl : k < ops.length := by have := (Array.getElem?_eq_some_iff.1 ho).1; simpa using this
      have := (hl k).2 (by omega)
      rw [getD_false_of h0] at this
      cases this
  | cons o rest ih =>
    intro j log L t S listed hrest hj hsz hl hL h
    have hjl : j < ops.length := by
      rcases Nat.lt_or_ge j ops.length with h | h
      · exact h
      · rw [List.drop_eq_nil_of_le h] at hrest; cases hrest
    have hoj : ops[j]? = some o := by
      have h0 : (ops.drop j)[0]? = (o :: rest)[0]? := by rw [hrest]
      simpa using h0
    obtain ⟨h1, h2⟩ := vdT_cons h
    have hdc : DC ops listed := fun a ha i hi hia => (hl i).2 (by
      have hal := (hl a).1 ha
      have := ord_lt hok hi a (by omega) hia
      omega)
    have hready : j ∈ Region.ready .any ops.toArray listed := mem_ready.2 ⟨by
      have : ¬ listed.getD j false = true := fun hc => by have := (hl j).1 hc; omega
      have hsj : j < listed.size := by omega
      simp [hsj] at this ⊢
      exact this, o, by simpa using hoj, fun e he hb => (hl e.on).2 ((drawOk_at hok hoj).1 e he hb)⟩
    refine AD_first hok hoj rest.length L listed t S hdc hready rfl ?_ (vdG_mono h2 fun t' S' h' => ?_)
    · intro p hp
      rcases hL p hp with hp | hp
      · exact h1 p hp
      · refine .inr ?_
        rw [hp]
        generalize fpG rg us ops j o t = E
        obtain ⟨r, w⟩ := E
        cases w <;> simp [apartE]
    · refine ih (j + 1) _ _ t' S' _ ?_ (by omega) (by simpa using hsz) ?_ ?_ h'
      · rw [List.drop_eq_getElem_cons hjl] at hrest
        exact (List.cons.inj hrest).2
      · intro i
        by_cases hij : j = i
        · subst hij
          simp [show j < listed.size by omega]
        · rw [getD_set_ne false hij, hl i]; omega
      · intro p hp
        rcases List.mem_cons.1 hp with rfl | hp
        · generalize fpG rg us ops j o t = E
          obtain ⟨r, w⟩ := E
          cases r with
          | nil =>
            cases w with
            | none => exact .inr rfl
            | some w => exact .inl (by simp [lg])
          | cons a r => exact .inl (by simp [lg])
        · rcases hL p hp with hp | hp
          · refine .inl ?_
            unfold lg
            split
            · exact hp
            · exact List.mem_cons_of_mem _ hp
          · exact .inr hp

theorem vd_vop {u : CR} {o : Oper} {t : Env} {S : St} {C : AV → St → Prop} (h : vd P rg u o.dst o.op (ev t) S C) : vop P rg o t S C := by
  obtain ⟨dst, op, ty, pos, after, guard⟩ := o
  cases op with
  | call c =>
    obtain ⟨callee, xs, ts⟩ := c
    cases callee with
    | value f =>
      simp only [vd] at h
      show (match ev t f with | .fn (.func g) [] caps => Ctr P g (xs.toList.map (ev t) ++ caps) S C | _ => False)
      split at h
      · rename_i g caps hf
        rw [hf]
        refine (h.1 S (agree.refl _ _ S)).mono ?_
        rintro v S' ⟨rfl, rfl⟩
        exact h.2
      · exact h.elim
    | _ => exact h
  | _ => exact h

theorem AD_sound {n : Nat} (hok : drawOk n ops = true) {Q : Exit → Act → World → Prop} : ∀ (fuel : Nat) (L : Log) (listed : Array Bool) (t : Env) (S : St) (G : Ghost) (a : Act) (w : World), AD P rg us ops K L fuel listed t S → Rel G S w → TR n G t a → (∀ a w, lift n G K a w → Q .normal a w) →
    wpAny P .any ops.toArray Q fuel listed a w := by
  intro fuel
  induction fuel with
  | zero => intro L listed t S G a w h hr ht hQ; exact ⟨h.1, hQ a w ⟨t, S, G, h.2, Ghost.le.refl G, hr, ht⟩⟩
  | succ fuel ih =>
    intro L listed t S G a w h hr ht hQ
    refine ⟨fun hn => hQ a w ⟨t, S, G, h.1 hn, Ghost.le.refl G, hr, ht⟩, fun j hj => ?_⟩
    obtain ⟨_, o, ho, _⟩ := mem_ready.1 hj
    have hoj : ops[j]? = some o := by simpa using ho
    have hdo : ∀ d, o.dst = some d → d < n := fun d hd => drawOk_dst hok (List.mem_of_getElem? hoj) hd
    obtain ⟨_, h2⟩ := h.2 j o hoj hj
    unfold wpOp
    simp only [ho]
    have step : vd P rg (us j) o.dst o.op (ev t) S (fun v S' => AD P rg us ops K L fuel (listed.setIfInBounds j true) (updo t o.dst v) S') → o.wp P a w (wpAny P .any ops.toArray Q fuel (listed.setIfInBounds j true)) Q := fun hv =>
      vop_sound (vd_vop hv) G a w _ Q hr ht (fun v av S' G' w' hk hle hr' hav => ih _ _ _ S' G' _ w' hk hr' ((ht.mono hle).put hdo hav) (fun a w hl => hQ a w (lift_mono hl hle)))
    unfold vdG at h2
    cases hg : o.guard with
    | none =>
      simp only [hg] at h2
      rw [if_pos (by simp [Region.wanted, hg])]
      exact .inl (step h2)
    | some gw =>
      obtain ⟨g, want⟩ := gw
      simp only [hg] at h2
      cases hd : (ops[g]?).bind (·.dst) with
      | none => simp only [hd] at h2
      | some d =>
        simp only [hd] at h2
        cases hb : t d with
        | bool b =>
          simp only [hb] at h2
          have hy := yields ht hd hb
          have hw : Region.wanted o (yielded ops.toArray a.tmps) = (b == want) := by simp only [Region.wanted, hg, hy]; cases b <;> cases want <;> rfl
          by_cases hbw : b = want
          · rw [if_pos (by rw [hw]; simp [hbw])]
            rw [if_pos hbw] at h2
            exact .inl (step h2)
          · rw [if_neg (by rw [hw]; simp [hbw])]
            rw [if_neg hbw] at h2
            exact ih _ _ _ S G _ w h2 hr (ht.put hdo (.junk _)) hQ
        | _ => simp only [hb] at h2

theorem vdr_mk {n : Nat} {t : Env} {S : St} (rg : Nat) (us : Nat → CR) (hok : drawOk n ops = true) (h : vdT P rg us ops ops 0 [] t S K) : vdr P n ops.toArray K t S := by
  intro G a w Q hr ht hQ
  have h1 := vdT_AD hok ops 0 [] [] t S (Array.replicate ops.length false) rfl (Nat.zero_le _) (by simp) (by intro i; simp [Array.getElem?_replicate]; split <;> simp) (fun p hp => by simp at hp) h
  have h2 := AD_sound hok ops.length [] _ t S G a w h1 hr ht hQ
  simpa using h2

/-! ### Equations -/
def jcr : CR := ⟨.junk, [], none⟩
/-- A call that leaves the store alone. -/
def pc (v : AV) : CR := ⟨v, [], none⟩
def usOf : List (Nat × CR) → Nat → CR
  | [], _ => jcr
  | (i, u) :: rest, j => if j = i then u else usOf rest j

variable {d : Option Nat} {t : Env} {S : St} {C : AV → St → Prop} {ty : TypeId} {pos : String} {after : Array Edge} {rest : List Oper} {j : Nat} {log : Log} {u : CR}
def isVC : Op → Bool | .call { callee := .value _, .. } => true | _ => false
theorem vd_vo {op : Op} (h : isVC op = false) : vd P rg u d op (ev t) S C = vo P rg d op t S C := by
  cases op with
  | call c =>
    obtain ⟨callee, xs, ts⟩ := c
    cases callee with
    | value f => simp [isVC] at h
    | _ => rfl
  | _ => rfl
theorem vdr_nc {n : Nat} {t : Env} {S : St} (rg : Nat) (hok : (drawOk n ops && ops.all fun o => !isVC o.op) = true) (h : vdT P rg (fun _ => jcr) ops ops 0 [] t S K) : vdr P n ops.toArray K t S := by
  simp only [Bool.and_eq_true] at hok
  exact vdr_mk rg _ hok.1 h
theorem and_ord1 {i j : Nat} {R : Prop} (h : ordB ops i j = true) (r : R) : ordB ops i j = true ∧ R := ⟨h, r⟩
theorem and_ord2 {i j i' j' : Nat} {R : Prop} (h : ordB ops i j = true) (h' : ordB ops i' j' = true) (r : R) : (ordB ops i j = true ∧ ordB ops i' j' = true) ∧ R := ⟨⟨h, h'⟩, r⟩
theorem and_ord3 {i j i' j' : Nat} {A R : Prop} (h : ordB ops i j = true) (r : (ordB ops i' j' = true ∧ A) ∧ R) : (ordB ops i j = true ∧ ordB ops i' j' = true ∧ A) ∧ R := ⟨⟨h, r.1⟩, r.2⟩
theorem vdT_eq {op : Op} : vdT P rg us ops (⟨d, op, ty, pos, after, none⟩ :: rest) j log t S K = (cf ops log j (fpo rg (d.getD 0) (us j) op (ev t)) ∧ vd P rg (us j) d op (ev t) S (fun v S' => vdT P rg us ops rest (j + 1) (lg j (fpo rg (d.getD 0) (us j) op (ev t)) log) (updo t d v) S' K)) := rfl
theorem vdT_pure {op : Op} (h : fpo rg (d.getD 0) (us j) op (ev t) = ([], none)) (h' : isVC op = false) :
    vdT P rg us ops (⟨d, op, ty, pos, after, none⟩ :: rest) j log t S K = vo P rg d op t S (fun v S' => vdT P rg us ops rest (j + 1) log (updo t d v) S' K) := by
  rw [vdT_eq, h, vd_vo h']
  simp only [lg]
  exact propext ⟨fun h => h.2, fun h => ⟨cf_empty, h⟩⟩
theorem vdT_loud {op : Op} {E : Eff} (h : fpo rg (d.getD 0) (us j) op (ev t) = E) (h' : isVC op = false) (hE : E ≠ ([], none)) :
    vdT P rg us ops (⟨d, op, ty, pos, after, none⟩ :: rest) j log t S K = (cf ops log j E ∧ vo P rg d op t S (fun v S' => vdT P rg us ops rest (j + 1) ((j, E) :: log) (updo t d v) S' K)) := by
  rw [vdT_eq, h, vd_vo h']
  have : lg j E log = (j, E) :: log := by
    unfold lg
    split
    · exact absurd rfl hE
    · rfl
  rw [this]
@[go_sem ↓] theorem vdT_move {x : Operand} : vdT P rg us ops (⟨d, .move x, ty, pos, after, none⟩ :: rest) j log t S K = vo P rg d (.move x) t S (fun v S' => vdT P rg us ops rest (j + 1) log (updo t d v) S' K) := vdT_pure rfl rfl
@[go_sem ↓] theorem vdT_assign {x : Operand} : vdT P rg us ops (⟨d, .assign x, ty, pos, after, none⟩ :: rest) j log t S K = vo P rg d (.assign x) t S (fun v S' => vdT P rg us ops rest (j + 1) log (updo t d v) S' K) := vdT_pure rfl rfl
@[go_sem ↓] theorem vdT_pick {c a b : Operand} : vdT P rg us ops (⟨d, .pick c a b, ty, pos, after, none⟩ :: rest) j log t S K = vo P rg d (.pick c a b) t S (fun v S' => vdT P rg us ops rest (j + 1) log (updo t d v) S' K) := vdT_pure rfl rfl
@[go_sem ↓] theorem vdT_bin {op : BinOp} {T T' : TypeId} {x y : Operand} : vdT P rg us ops (⟨d, .binOp op T x y T', ty, pos, after, none⟩ :: rest) j log t S K = vo P rg d (.binOp op T x y T') t S (fun v S' => vdT P rg us ops rest (j + 1) log (updo t d v) S' K) := vdT_pure rfl rfl
@[go_sem ↓] theorem vdT_un {op : UnOp} {T : TypeId} {x : Operand} : vdT P rg us ops (⟨d, .unOp op T x, ty, pos, after, none⟩ :: rest) j log t S K = vo P rg d (.unOp op T x) t S (fun v S' => vdT P rg us ops rest (j + 1) log (updo t d v) S' K) := vdT_pure rfl rfl
@[go_sem ↓] theorem vdT_conv {s T : TypeId} {x : Operand} : vdT P rg us ops (⟨d, .convert s T x, ty, pos, after, none⟩ :: rest) j log t S K = vo P rg d (.convert s T x) t S (fun v S' => vdT P rg us ops rest (j + 1) log (updo t d v) S' K) := vdT_pure rfl rfl
@[go_sem ↓] theorem vdT_iface {T : TypeId} {x : Operand} : vdT P rg us ops (⟨d, .makeInterface T x, ty, pos, after, none⟩ :: rest) j log t S K = vo P rg d (.makeInterface T x) t S (fun v S' => vdT P rg us ops rest (j + 1) log (updo t d v) S' K) := vdT_pure rfl rfl
@[go_sem ↓] theorem vdT_func {fn : Fn} {a b : List Operand} : vdT P rg us ops (⟨d, .makeFunc fn a.toArray b.toArray, ty, pos, after, none⟩ :: rest) j log t S K = vo P rg d (.makeFunc fn a.toArray b.toArray) t S (fun v S' => vdT P rg us ops rest (j + 1) log (updo t d v) S' K) := vdT_pure rfl rfl
@[go_sem ↓] theorem vdT_build {T : TypeId} {parts : List (Nat × Operand)} : vdT P rg us ops (⟨d, .build T parts.toArray, ty, pos, after, none⟩ :: rest) j log t S K = vo P rg d (.build T parts.toArray) t S (fun v S' => vdT P rg us ops rest (j + 1) log (updo t d v) S' K) := vdT_pure rfl rfl
@[go_sem ↓] theorem vdT_nilCheck {x : Operand} : vdT P rg us ops (⟨d, .nilCheck x, ty, pos, after, none⟩ :: rest) j log t S K = vo P rg d (.nilCheck x) t S (fun v S' => vdT P rg us ops rest (j + 1) log (updo t d v) S' K) := vdT_pure rfl rfl
@[go_sem ↓] theorem vdT_fieldAddr {T f : Nat} {x : Operand} : vdT P rg us ops (⟨d, .fieldAddr T x f, ty, pos, after, none⟩ :: rest) j log t S K = vo P rg d (.fieldAddr T x f) t S (fun v S' => vdT P rg us ops rest (j + 1) log (updo t d v) S' K) := vdT_pure rfl rfl
@[go_sem ↓] theorem vdT_field {T f : Nat} {x : Operand} : vdT P rg us ops (⟨d, .field T x f, ty, pos, after, none⟩ :: rest) j log t S K = vo P rg d (.field T x f) t S (fun v S' => vdT P rg us ops rest (j + 1) log (updo t d v) S' K) := vdT_pure rfl rfl
@[go_sem ↓] theorem vdT_indexAddr {T : TypeId} {x i : Operand} : vdT P rg us ops (⟨d, .indexAddr T x i, ty, pos, after, none⟩ :: rest) j log t S K = vo P rg d (.indexAddr T x i) t S (fun v S' => vdT P rg us ops rest (j + 1) log (updo t d v) S' K) := vdT_pure rfl rfl
@[go_sem ↓] theorem vdT_index {T : TypeId} {x i : Operand} : vdT P rg us ops (⟨d, .index T x i, ty, pos, after, none⟩ :: rest) j log t S K = vo P rg d (.index T x i) t S (fun v S' => vdT P rg us ops rest (j + 1) log (updo t d v) S' K) := vdT_pure rfl rfl
@[go_sem ↓] theorem vdT_slice {T : TypeId} {x : Operand} {lo hi mx : Option Operand} : vdT P rg us ops (⟨d, .slice T x lo hi mx, ty, pos, after, none⟩ :: rest) j log t S K = vo P rg d (.slice T x lo hi mx) t S (fun v S' => vdT P rg us ops rest (j + 1) log (updo t d v) S' K) := vdT_pure rfl rfl
@[go_sem ↓] theorem vdT_extract {x : Operand} {i : Nat} : vdT P rg us ops (⟨d, .extract x i, ty, pos, after, none⟩ :: rest) j log t S K = vo P rg d (.extract x i) t S (fun v S' => vdT P rg us ops rest (j + 1) log (updo t d v) S' K) := vdT_pure rfl rfl
@[go_sem ↓] theorem vdT_assert {x : Operand} {a T : TypeId} {ok : Bool} : vdT P rg us ops (⟨d, .typeAssert x a T ok, ty, pos, after, none⟩ :: rest) j log t S K = vo P rg d (.typeAssert x a T ok) t S (fun v S' => vdT P rg us ops rest (j + 1) log (updo t d v) S' K) := vdT_pure rfl rfl
@[go_sem ↓] theorem vdT_len {x : Operand} {T : TypeId} : vdT P rg us ops (⟨d, .call { callee := .builtin .len, args := #[x], argTypes := #[T] }, ty, pos, after, none⟩ :: rest) j log t S K = vo P rg d (.call { callee := .builtin .len, args := #[x], argTypes := #[T] }) t S (fun v S' => vdT P rg us ops rest (j + 1) log (updo t d v) S' K) := vdT_pure rfl rfl
@[go_sem ↓] theorem vdT_max {x y : Operand} {ts : Array TypeId} : vdT P rg us ops (⟨d, .call { callee := .builtin .max, args := #[x, y], argTypes := ts }, ty, pos, after, none⟩ :: rest) j log t S K = vo P rg d (.call { callee := .builtin .max, args := #[x, y], argTypes := ts }) t S (fun v S' => vdT P rg us ops rest (j + 1) log (updo t d v) S' K) := vdT_pure rfl rfl
@[go_sem ↓] theorem vdT_min {x y : Operand} {ts : Array TypeId} : vdT P rg us ops (⟨d, .call { callee := .builtin .min, args := #[x, y], argTypes := ts }, ty, pos, after, none⟩ :: rest) j log t S K = vo P rg d (.call { callee := .builtin .min, args := #[x, y], argTypes := ts }) t S (fun v S' => vdT P rg us ops rest (j + 1) log (updo t d v) S' K) := vdT_pure rfl rfl
@[go_sem ↓] theorem vdT_alloc {T : TypeId} : vdT P rg us ops (⟨d, .alloc T, ty, pos, after, none⟩ :: rest) j log t S K = (cf ops log j ([], some (rg, d.getD 0)) ∧ vo P rg d (.alloc T) t S (fun v S' => vdT P rg us ops rest (j + 1) ((j, ([], some (rg, d.getD 0))) :: log) (updo t d v) S' K)) := vdT_loud rfl rfl (by simp)
@[go_sem ↓] theorem vdT_box {T : TypeId} {x : Operand} : vdT P rg us ops (⟨d, .box T x, ty, pos, after, none⟩ :: rest) j log t S K = (cf ops log j ([], some (rg, d.getD 0)) ∧ vo P rg d (.box T x) t S (fun v S' => vdT P rg us ops rest (j + 1) ((j, ([], some (rg, d.getD 0))) :: log) (updo t d v) S' K)) := vdT_loud rfl rfl (by simp)
@[go_sem ↓] theorem vdT_make {T : TypeId} {l c : Operand} : vdT P rg us ops (⟨d, .makeSlice T l c, ty, pos, after, none⟩ :: rest) j log t S K = (cf ops log j ([], some (rg, d.getD 0)) ∧ vo P rg d (.makeSlice T l c) t S (fun v S' => vdT P rg us ops rest (j + 1) ((j, ([], some (rg, d.getD 0))) :: log) (updo t d v) S' K)) := vdT_loud rfl rfl (by simp)
@[go_sem ↓] theorem vdT_buildSlice {T : TypeId} {len : Nat} {parts : List (Nat × Operand)} : vdT P rg us ops (⟨d, .buildSlice T len parts.toArray, ty, pos, after, none⟩ :: rest) j log t S K = (cf ops log j ([], some (rg, d.getD 0)) ∧ vo P rg d (.buildSlice T len parts.toArray) t S (fun v S' => vdT P rg us ops rest (j + 1) ((j, ([], some (rg, d.getD 0))) :: log) (updo t d v) S' K)) := vdT_loud rfl rfl (by simp)
@[go_sem ↓] theorem vdT_load {T : TypeId} {x : Operand} : vdT P rg us ops (⟨d, .load T x, ty, pos, after, none⟩ :: rest) j log t S K = (match ev t x with
    | .ptr r k _ _ _ => cf ops log j ([(r, k)], none) ∧ vo P rg d (.load T x) t S (fun v S' => vdT P rg us ops rest (j + 1) ((j, ([(r, k)], none)) :: log) (updo t d v) S' K)
    | _ => vo P rg d (.load T x) t S (fun v S' => vdT P rg us ops rest (j + 1) log (updo t d v) S' K)) := by
  split
  · rename_i hx
    exact vdT_loud (by simp only [fpo, hx]) rfl (by simp)
  · rename_i hx
    refine vdT_pure ?_ rfl
    simp only [fpo]
@[go_sem ↓] theorem vdT_store {T : TypeId} {a x : Operand} : vdT P rg us ops (⟨d, .store T a x, ty, pos, after, none⟩ :: rest) j log t S K = (match ev t a with
    | .ptr r k _ _ _ => cf ops log j ([], some (r, k)) ∧ vo P rg d (.store T a x) t S (fun v S' => vdT P rg us ops rest (j + 1) ((j, ([], some (r, k))) :: log) (updo t d v) S' K)
    | _ => False) := by
  split
  · rename_i hx
    exact vdT_loud (by simp only [fpo, hx]) rfl (by simp)
  · rename_i hx
    have e : fpo rg (d.getD 0) (us j) (.store T a x) (ev t) = ([], none) := by
      simp only [fpo]
    rw [vdT_pure e rfl, vo_store]
    unfold vStore
    split
    · rename_i hy; exact absurd hy (hx _ _ _ _ _)
    · rfl
def rdOf : AV → List Key | .sl _ r k _ _ _ => [(r, k)] | _ => []
def wrOf (rg k : Nat) : AV → Key | .sl _ r k _ _ _ => (r, k) | _ => (rg, k)
@[go_sem ↓] theorem vdT_append {T : TypeId} {b x : Operand} : vdT P rg us ops (⟨d, .call { callee := .builtin .append, args := #[b, x], argTypes := #[T, T] }, ty, pos, after, none⟩ :: rest) j log t S K =
    (cf ops log j (rdOf (ev t x), some (wrOf rg (d.getD 0) (ev t b))) ∧ vo P rg d (.call { callee := .builtin .append, args := #[b, x], argTypes := #[T, T] }) t S (fun v S' => vdT P rg us ops rest (j + 1) ((j, (rdOf (ev t x), some (wrOf rg (d.getD 0) (ev t b)))) :: log) (updo t d v) S' K)) := by
  refine vdT_loud ?_ rfl (by simp)
  show ((match ev t x with | .sl _ r k _ _ _ => [(r, k)] | _ => []), (match ev t b with | .sl _ r k _ _ _ => some (r, k) | _ => some (rg, d.getD 0))) = _
  unfold rdOf wrOf
  congr 1
  cases ev t b <;> rfl
@[go_sem ↓] theorem vdT_call {f : Operand} {xs : List Operand} {ts : Array TypeId} : vdT P rg us ops (⟨d, .call { callee := .value f, args := xs.toArray, argTypes := ts }, ty, pos, after, none⟩ :: rest) j log t S K =
    (cf ops log j ((us j).rd, (us j).key) ∧ (match ev t f with
      | .fn (.func g) [] caps => (∀ S', agree (us j).rd (us j).key S' S → Ctr P g (xs.map (ev t) ++ caps) S' (fun v S'' => v = (us j).v ∧ S'' = (us j).app S')) ∧ vdT P rg us ops rest (j + 1) (lg j ((us j).rd, (us j).key) log) (updo t d (us j).v) ((us j).app S) K
      | _ => False)) := rfl
@[go_sem ↓] theorem vdT_nil : vdT P rg us ops [] j log t S K = K t S := rfl
@[go_sem ↓] theorem vdT_some {op : Op} {g : Nat} {want : Bool} : vdT P rg us ops (⟨d, op, ty, pos, after, some (g, want)⟩ :: rest) j log t S K = (match (ops[g]?).bind (·.dst) with
      | some s => match t s with
        | .bool b => (b = want → vdT P rg us ops (⟨d, op, ty, pos, after, none⟩ :: rest) j log (upd t s (.bool want)) S K) ∧
            (b = !want → vdT P rg us ops rest (j + 1) log (updo (upd t s (.bool !want)) d .junk) S K)
        | _ => False
      | none => False) := rfl
@[go_sem] theorem agree_nil {S S' : St} : agree [] none S' S = True := by simp [agree]
@[go_sem] theorem pc_rd {v : AV} : (pc v).rd = [] := rfl
@[go_sem] theorem pc_key {v : AV} : (pc v).key = none := rfl
@[go_sem] theorem pc_v {v : AV} : (pc v).v = v := rfl
@[go_sem] theorem pc_app {v : AV} : (pc v).app S = S := rfl
@[go_sem] theorem usOf_cons {i : Nat} {l : List (Nat × CR)} : usOf ((i, u) :: l) j = if j = i then u else usOf l j := rfl
@[go_sem] theorem lg_empty : lg j ([], none) log = log := rfl
@[go_sem] theorem lg_rd {p : Key} {l : List Key} {w : Option Key} : lg j (p :: l, w) log = (j, (p :: l, w)) :: log := rfl
@[go_sem] theorem lg_wr {l : List Key} {w : Key} : lg j (l, some w) log = (j, (l, some w)) :: log := by cases l <;> rfl
@[go_sem] theorem cf_none : cf ops log j ([], none) = True := by simp [cf_empty]
@[go_sem] theorem cf_nil {E : Eff} : cf ops [] j E = True := by simp [cf]
@[go_sem] theorem cf_rr {i : Nat} {r r' : List Key} : cf ops ((i, (r, none)) :: log) j (r', none) = cf ops log j (r', none) := by simp [cf, apartE]
@[go_sem] theorem cf_rw {i : Nat} {r : Key} {l : List Key} {w : Key} : cf ops ((i, (r :: l, none)) :: log) j ([], some w) = ((ordB ops i j = true ∨ w ∉ r :: l) ∧ cf ops log j ([], some w)) := by simp [cf, apartE]
@[go_sem] theorem cf_wr {i : Nat} {r : List Key} {w : Key} : cf ops ((i, ([], some w)) :: log) j (r, none) = ((ordB ops i j = true ∨ w ∉ r) ∧ cf ops log j (r, none)) := by simp [cf, apartE]
@[go_sem] theorem cf_ww {i : Nat} {w w' : Key} : cf ops ((i, ([], some w)) :: log) j ([], some w') = ((ordB ops i j = true ∨ w ≠ w') ∧ cf ops log j ([], some w')) := by simp [cf, apartE]
@[go_sem] theorem cf_any {i : Nat} {r r' : List Key} {w w' : Key} : cf ops ((i, (r, some w)) :: log) j (r', some w') = ((ordB ops i j = true ∨ (w ∉ r' ∧ w ≠ w' ∧ w' ∉ r)) ∧ cf ops log j (r', some w')) := by simp [cf, apartE, and_assoc]
@[go_sem] theorem cf_any2 {i : Nat} {r r' : List Key} {w : Key} : cf ops ((i, (r, some w)) :: log) j (r', none) = ((ordB ops i j = true ∨ w ∉ r') ∧ cf ops log j (r', none)) := by simp [cf, apartE]
@[go_sem] theorem cf_any3 {i : Nat} {r r' : List Key} {w : Key} : cf ops ((i, (r, none)) :: log) j (r', some w) = ((ordB ops i j = true ∨ w ∉ r) ∧ cf ops log j (r', some w)) := by simp [cf, apartE]
attribute [go_sem] rdOf wrOf List.mem_cons List.not_mem_nil Prod.mk.injEq or_false false_or or_true true_or not_false_eq_true not_true_eq_false ne_eq and_false false_and
end
end Go.Gg
