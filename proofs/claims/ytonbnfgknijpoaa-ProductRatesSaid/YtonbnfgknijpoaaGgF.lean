/- An own logic over the kit's weakest preconditions, part F: the remaining quiet operations, and all of them together. Conditions: none. -/
import Derived.Test.YtonbnfgknijpoaaGgE
namespace Go.Gg

section
variable {P : Program} {G : Ghost} {S : St} {w : World}

theorem q_bits {op : BinOp} {T : TypeId} {k : IntKind} {m n : Int} {K : AV → Prop} (hop : op ≠ .shl ∧ op ≠ .shr) (h : vBits op k m n K) :
    ∃ v av, (binOp op T (.int k m) (.int k n)).run P w = .ok v w ∧ K av ∧ VR G av v := by
  cases op <;> simp only [vBits] at h <;> first
    | exact h.elim
    | (refine ⟨_, _, ?_, h, .int _ _⟩; simp [binOp, Op.intArith]; done)
    | (refine ⟨_, _, ?_, h.2, .int _ _⟩; simp [binOp, Op.intDiv, h.1])
    | (refine ⟨_, _, ?_, h, .int _ _⟩; simp [binOp, intBits_and, intBits_or, intBits_xor, intBits_andNot]; done)
    | (refine ⟨_, _, ?_, h, .bool _⟩; simp [binOp, Op.intCmp])
    | exact absurd rfl hop.1
    | exact absurd rfl hop.2

theorem q_shift {op : BinOp} {T : TypeId} {k k' : IntKind} {m n : Int} {K : AV → Prop} (h : vShift op k m n K) :
    ∃ v av, (binOp op T (.int k m) (.int k' n)).run P w = .ok v w ∧ K av ∧ VR G av v := by
  cases op <;> simp only [vShift] at h <;> try exact h.elim
  · obtain ⟨h0, h1, h⟩ := h
    refine ⟨_, _, ?_, h, .int _ _⟩
    have : min n.toNat k.bits = n.toNat := by omega
    have hn : ¬ n < 0 := by omega
    simp [binOp, Op.shift, hn, this]
  · obtain ⟨h0, h1, h⟩ := h
    refine ⟨_, _, ?_, h, .int _ _⟩
    have : min n.toNat k.bits = n.toNat := by omega
    have hn : ¬ n < 0 := by omega
    have hp : (0 : Int) ≤ 2 ^ n.toNat := Int.le_of_lt (Int.pow_pos (by decide))
    simp [binOp, Op.shift, hn, this, Int.fdiv_eq_ediv_of_nonneg _ hp]

theorem run_eqIn_bool {T : TypeId} {p q : Bool} (hu : P.underlying T = some .bool) (d : Nat) : (Op.equalIn (d + 1) T (.bool p) (.bool q)).run P w = .ok (p == q) w := by
  simp only [Op.equalIn, Sem.run_bind, run_underlying hu, Result.andThen_ok, Sem.run_pure]
theorem run_eq_bool {T : TypeId} {p q : Bool} (hu : P.underlying T = some .bool) : (Op.equal T (.bool p) (.bool q)).run P w = .ok (p == q) w := by
  unfold Op.equal Op.maxDepth
  exact run_eqIn_bool hu 9999
theorem run_eqIn_nil2 {T : TypeId}  {ms} (hu : P.underlying T = some (.interface ms)) (d : Nat) : (Op.equalIn (d + 1) T .nilIface .nilIface).run P w = .ok true w := by
  simp only [Op.equalIn, Sem.run_bind, run_underlying hu, Result.andThen_ok, Sem.run_pure]
theorem run_eq_nil2 {T : TypeId}  {ms} (hu : P.underlying T = some (.interface ms)) : (Op.equal T .nilIface .nilIface).run P w = .ok true w := by
  unfold Op.equal Op.maxDepth
  exact run_eqIn_nil2 hu 9999
theorem run_eqIn_nilL {T : TypeId} {t : TypeId} {q : Value} {ms} (hu : P.underlying T = some (.interface ms)) (d : Nat) : (Op.equalIn (d + 1) T .nilIface (.iface t q)).run P w = .ok false w := by
  simp only [Op.equalIn, Sem.run_bind, run_underlying hu, Result.andThen_ok, Sem.run_pure]
theorem run_eq_nilL {T : TypeId} {t : TypeId} {q : Value} {ms} (hu : P.underlying T = some (.interface ms)) : (Op.equal T .nilIface (.iface t q)).run P w = .ok false w := by
  unfold Op.equal Op.maxDepth
  exact run_eqIn_nilL hu 9999
theorem run_eqIn_nilR {T : TypeId} {t : TypeId} {q : Value} {ms} (hu : P.underlying T = some (.interface ms)) (d : Nat) : (Op.equalIn (d + 1) T (.iface t q) .nilIface).run P w = .ok false w := by
  simp only [Op.equalIn, Sem.run_bind, run_underlying hu, Result.andThen_ok, Sem.run_pure]
theorem run_eq_nilR {T : TypeId} {t : TypeId} {q : Value} {ms} (hu : P.underlying T = some (.interface ms)) : (Op.equal T (.iface t q) .nilIface).run P w = .ok false w := by
  unfold Op.equal Op.maxDepth
  exact run_eqIn_nilR hu 9999
theorem run_binOp_eq {T : TypeId} {x y : Value} {b : Bool} (h : (Op.equal T x y).run P w = .ok b w) : ((do pure (.bool (← Op.equal T x y))) : Sem Value).run P w = .ok (.bool b) w := by
  simp [h]
theorem run_binOp_ne {T : TypeId} {x y : Value} {b : Bool} (h : (Op.equal T x y).run P w = .ok b w) : ((do pure (.bool (!(← Op.equal T x y)))) : Sem Value).run P w = .ok (.bool (!b)) w := by
  simp [h]

theorem q_bin {op : BinOp} {T : TypeId} {x y : Operand} {a b : AV} {u v : Value} {K : AV → Prop} (hx : VR G a u) (hy : VR G b v) (h : vBin P op T x y a b K)
    (hcx : isConst x = true → ∃ c, x = .const c) (hcy : isConst y = true → ∃ c, y = .const c) :
    ∃ r av, (do eqGuard op T x y u v; binOp op T u v : Sem Value).run P w = .ok r w ∧ K av ∧ VR G av r := by
  cases hx with
  | int k m =>
    cases hy with
    | int k' n =>
      have hg : (eqGuard op T x y (.int k m) (.int k' n)).run P w = .ok () w := by simp [eqGuard_at_int]
      simp only [Sem.run_bind, hg, Result.andThen_ok]
      by_cases h1 : op = .shl
      · subst h1; exact q_shift h
      by_cases h2 : op = .shr
      · subst h2; exact q_shift h
      have hh : k = k' ∧ vBits op k m n K := by cases op <;> first | exact h | exact absurd rfl h1 | exact absurd rfl h2
      obtain ⟨rfl, hh⟩ := hh
      exact q_bits ⟨h1, h2⟩ hh
    | _ => exact h.elim
  | bool p =>
    cases hy with
    | bool q =>
      obtain ⟨ht, h⟩ := h
      have hu := td_bool ht
      have hg : (eqGuard op T x y (.bool p) (.bool q)).run P w = .ok () w := by simp [eqGuard_at_bool]
      simp only [Sem.run_bind, hg, Result.andThen_ok]
      cases op <;> first
        | exact h.elim
        | exact ⟨_, _, run_binOp_eq (run_eq_bool hu), h, .bool _⟩
        | exact ⟨_, _, run_binOp_ne (run_eq_bool hu), h, .bool _⟩
    | _ => exact h.elim
  | niface =>
    cases hy with
    | niface =>
      obtain ⟨ht, hc, h⟩ := h
      obtain ⟨ms, hu⟩ := td_iface ht
      have hg : (eqGuard op T x y .nilIface .nilIface).run P w = .ok () w := by
        simp only [Bool.or_eq_true] at hc
        rcases hc with hc | hc
        · obtain ⟨c, rfl⟩ := hcx hc; simp [eqGuard_nil_constL]
        · obtain ⟨c, rfl⟩ := hcy hc; simp [eqGuard_nil_constR]
      simp only [Sem.run_bind, hg, Result.andThen_ok]
      cases op <;> first
        | exact h.elim
        | exact ⟨_, _, run_binOp_eq (run_eq_nil2 hu), h, .bool _⟩
        | exact ⟨_, _, run_binOp_ne (run_eq_nil2 hu), h, .bool _⟩
    | iface t z q hz =>
      obtain ⟨ht, h⟩ := h
      obtain ⟨ms, hu⟩ := td_iface ht
      have hg : (eqGuard op T x y .nilIface (.iface t q)).run P w = .ok () w := by simp [eqGuard_nil_iface]
      simp only [Sem.run_bind, hg, Result.andThen_ok]
      cases op <;> first
        | exact h.elim
        | exact ⟨_, _, run_binOp_eq (run_eq_nilL hu), h, .bool _⟩
        | exact ⟨_, _, run_binOp_ne (run_eq_nilL hu), h, .bool _⟩
    | _ => exact h.elim
  | iface t z q hz =>
    cases hy with
    | niface =>
      obtain ⟨ht, h⟩ := h
      obtain ⟨ms, hu⟩ := td_iface ht
      have hg : (eqGuard op T x y (.iface t q) .nilIface).run P w = .ok () w := by simp [eqGuard_at_iface]
      simp only [Sem.run_bind, hg, Result.andThen_ok]
      cases op <;> first
        | exact h.elim
        | exact ⟨_, _, run_binOp_eq (run_eq_nilR hu), h, .bool _⟩
        | exact ⟨_, _, run_binOp_ne (run_eq_nilR hu), h, .bool _⟩
    | _ => exact h.elim
  | _ => exact h.elim

theorem q_un {op : UnOp} {a : AV} {u : Value} {K : AV → Prop} (hx : VR G a u) (h : vUn op a K) : ∃ r av, (Op.unary op u).run P w = .ok r w ∧ K av ∧ VR G av r := by
  cases hx <;> cases op <;> simp only [vUn] at h <;> first
    | exact h.elim
    | (refine ⟨_, _, ?_, h, .bool _⟩; simp [Op.unary]; done)
    | (refine ⟨_, _, ?_, h, .int _ _⟩; simp [Op.unary, Op.intArith]; done)
    | (refine ⟨_, _, ?_, h, .int _ _⟩; simp [Op.unary, bits, Op.intBits]; done)

/-- A part of an aggregate. -/
theorem q_part {T : TypeId} {cs : List AV} {xs : Array Value} {off : Nat} (hsz : 0 < sz P T) (hone : isAggT P T = false → sz P T = 1) (hl : off + sz P T ≤ cs.length)
    (hs : xs.size = cs.length) (hv : ∀ i (h : i < cs.length) (h' : i < xs.size), VR G cs[i] xs[i]) :
    ∃ v, (part T xs off).run P w = .ok v w ∧ VR G (ldv P T cs off) v := by
  cases ha : isAggT P T with
  | true =>
    refine ⟨.agg (xs.extract off (off + sz P T)), ?_, ?_⟩
    · simp only [part, Sem.run_bind, run_isAgg ha, Result.andThen_ok, if_true, run_sizeOf hsz, Sem.run_pure]
    · simp only [ldv, ha, cond_true]
      refine .agg _ _ (by simp; omega) (fun i h h' => ?_)
      simp only [List.getElem_take, List.getElem_drop, Array.getElem_extract]
      simp only [List.length_take, List.length_drop] at h
      exact hv _ (by omega) (by omega)
  | false =>
    obtain ⟨_, d, _, hd, _⟩ := sz_pos hsz
    have h1 := hone ha
    refine ⟨xs[off]'(by omega), ?_, ?_⟩
    · have hx : xs[off]? = some (xs[off]'(by omega)) := by simp
      simp only [part, Sem.run_bind, run_notAgg hd ha, Result.andThen_ok, Bool.false_eq_true, if_false, hx, Sem.run_pure]
    · simp only [ldv, ha, cond_false]
      rw [List.getD_eq_getElem?_getD, List.getElem?_eq_getElem (by omega)]
      exact hv _ _ _

theorem q_field {T f : Nat} {a : AV} {x : Value} {K : AV → Prop} (hx : VR G a x) (h : vField P T f a K) : ∃ v av, (Instr.field T x f).run P w = .ok v w ∧ K av ∧ VR G av v := by
  unfold vField at h
  cases hx with
  | agg cs xs hs hv =>
    simp only at h
    split at h
    · rename_i fs hd
      obtain ⟨fields, hu, rfl⟩ := td_struct hd
      obtain ⟨⟨hf, hsz, hone, hl⟩, hK⟩ := h
      obtain ⟨fd, hfd, hg⟩ := fs_getD hf
      rw [hg] at hK hsz hone hl
      simp only at hK hsz hone hl
      obtain ⟨v, h1, h2⟩ := q_part (P := P) (w := w) hsz hone hl hs hv
      refine ⟨v, _, ?_, hK, h2⟩
      simp only [Instr.field, Sem.run_bind, run_underlying hu, Result.andThen_ok, hfd, asAgg, Sem.run_pure, h1]
    · exact h.elim
  | _ => exact h.elim

theorem q_index {T : Nat} {a i : AV} {x y : Value} {K : AV → Prop} (hx : VR G a x) (hy : VR G i y) (h : vIndex P T a i K) :
    ∃ v av, (Instr.index T x y).run P w = .ok v w ∧ K av ∧ VR G av v := by
  unfold vIndex at h
  cases hy with
  | int ki n =>
    cases hx with
    | agg cs xs hs hv =>
      simp only at h
      split at h
      · rename_i len e hd
        have hu := td_array hd
        obtain ⟨⟨h0, h1⟩, ⟨hsz, hone, hl⟩, hK⟩ := h
        obtain ⟨v, q1, q2⟩ := q_part (P := P) (w := w) hsz hone hl hs hv
        refine ⟨v, _, ?_, hK, q2⟩
        simp [Instr.index, asIntOf, run_underlying hu, h0, h1, run_sizeOf hsz, q1]
      · exact h.elim
    | str s =>
      simp only at h
      split at h
      · rename_i hd
        have hu : P.underlying T = some .string := by unfold td at hd; split at hd <;> first | assumption | cases hd
        obtain ⟨⟨h0, h1⟩, hK⟩ := h
        have hlt : n.toNat < s.size := by omega
        refine ⟨_, _, ?_, hK, .int _ _⟩
        simp [Instr.index, asIntOf, run_underlying hu, h0, hlt, byteAt]
      · exact h.elim
    | _ => exact h.elim
  | _ => exact h.elim

theorem bnd_run {lo : Option AV} {vlo : Option Value} {d : Nat} {n : Int} (hv : ∀ a, lo = some a → ∃ x, vlo = some x ∧ VR G a x) (hn : lo = none → vlo = none) (h : bnd lo d = some n) :
    (lo = none ∧ vlo = none ∧ n = d) ∨ ∃ k, vlo = some (.int k n) := by
  unfold bnd at h
  split at h
  · exact .inl ⟨rfl, hn rfl, by injection h with h; exact h.symm⟩
  · obtain ⟨x, hx, hr⟩ := hv _ rfl
    cases hr
    injection h with h
    subst h
    exact .inr ⟨_, hx⟩
  · cases h

theorem run_bounds {vlo vhi : Option Value} {len cap : Nat} {l h : Int} (hlo : (vlo = none ∧ l = 0) ∨ ∃ k, vlo = some (.int k l)) (hhi : (vhi = none ∧ h = len) ∨ ∃ k, vhi = some (.int k h))
    (h0 : 0 ≤ l) (h1 : l ≤ h) (h2 : h ≤ len) (hc : len ≤ cap) : (Instr.sliceBounds true len cap vlo vhi none).run P w = .ok (l.toNat, h.toNat, cap) w := by
  have hh : (match vhi with | some v => Instr.sliceBound v cap .sliceAcap | none => (pure len : Sem Nat)).run P w = .ok h.toNat w := by
    rcases hhi with ⟨rfl, rfl⟩ | ⟨k, rfl⟩
    · simp
    · have e1 : 0 ≤ h ∧ h ≤ (cap : Int) := by omega
      simp only [Instr.sliceBound, asIntOf, Sem.run_bind, Sem.run_pure, Result.andThen_ok, if_pos e1]
  have hl : (match vlo with | some v => Instr.sliceBound v h.toNat .sliceB | none => (pure 0 : Sem Nat)).run P w = .ok l.toNat w := by
    rcases hlo with ⟨rfl, rfl⟩ | ⟨k, rfl⟩
    · simp
    · have e1 : 0 ≤ l ∧ l ≤ ((h.toNat : Nat) : Int) := by omega
      simp only [Instr.sliceBound, asIntOf, Sem.run_bind, Sem.run_pure, Result.andThen_ok, if_pos e1]
  rcases vhi with _ | vh <;> rcases vlo with _ | vl <;> simp only at hh hl <;> simp [Instr.sliceBounds, hh, hl] <;> simp_all

theorem q_slice {T : TypeId} {a : AV} {x : Value} {lo hi mx : Option AV} {vlo vhi vmx : Option Value} {K : AV → Prop} (hx : VR G a x)
    (hvlo : ∀ a, lo = some a → ∃ x, vlo = some x ∧ VR G a x) (hnlo : lo = none → vlo = none) (hvhi : ∀ a, hi = some a → ∃ x, vhi = some x ∧ VR G a x) (hnhi : hi = none → vhi = none)
    (hmx : mx = none → vmx = none) (h : vSlice P T a lo hi mx K) : ∃ v av, (Instr.sliceAt T x vlo vhi vmx).run P w = .ok v w ∧ K av ∧ VR G av v := by
  unfold vSlice at h
  split at h
  · rename_i e hd
    have hu := td_slice hd
    rw [hmx rfl]
    have key : ∀ (ao : Option Addr) (len cap : Nat) (l h : Int), (Instr.sliceBounds true len cap vlo vhi none).run P w = .ok (l.toNat, h.toNat, cap) w → 0 < sz P e →
        (Instr.sliceAt T (.slice ao len cap) vlo vhi none).run P w = .ok (.slice (if cap = l.toNat then ao else ao.map (·.add (l.toNat * sz P e))) (h.toNat - l.toNat) (cap - l.toNat)) w := by
      intro ao len cap l h hb hs
      simp [Instr.sliceAt, Instr.slice, run_underlying hu, hb, run_sizeOf hs]
    cases hx with
    | sl kk r k g off len a L hL hk hc hm ha =>
      simp only at h
      split at h
      · rename_i l hh hbl hbh
        obtain ⟨⟨h0, h1, h2⟩, ⟨hk0, hkk⟩, hK⟩ := h
        have e1 := bnd_run (G := G) hvlo hnlo hbl
        have e2 := bnd_run (G := G) hvhi hnhi hbh
        have hb := run_bounds (P := P) (w := w) (vlo := vlo) (vhi := vhi) (len := len) (cap := L.cap - off) (l := l) (h := hh)
          (e1.imp (fun q => ⟨q.2.1, q.2.2⟩) id) (e2.imp (fun q => ⟨q.2.1, q.2.2⟩) id) h0 h1 h2 (by omega)
        refine ⟨_, _, key a len (L.cap - off) l hh hb (by omega), hK, ?_⟩
        have hcap : L.cap - off - l.toNat = L.cap - (off + l.toNat) := by omega
        rw [hcap]
        refine .sl _ _ _ _ _ _ _ L hL hk (by omega) hm (fun hlt => ?_)
        rw [if_neg (by omega), ha (by omega)]
        simp only [Option.map_some, addr_add, ← hkk, hk, Nat.add_mul]
      · exact h.elim
    | list es a len cap c x k u hn hcap hm ha hk hi hv =>
      simp only at h
      split at h
      · rename_i l hh hbl hbh
        obtain ⟨⟨h0, h1, h2⟩, ⟨hs0, hall⟩, hK⟩ := h
        have e1 := bnd_run (G := G) hvlo hnlo hbl
        have e2 := bnd_run (G := G) hvhi hnhi hbh
        have hb := run_bounds (P := P) (w := w) (vlo := vlo) (vhi := vhi) (len := len) (cap := cap) (l := l) (h := hh)
          (e1.imp (fun q => ⟨q.2.1, q.2.2⟩) id) (e2.imp (fun q => ⟨q.2.1, by rw [hn]; exact q.2.2⟩) id) h0 h1 (by omega) (by omega)
        refine ⟨_, _, key a len cap l hh hb hs0, hK, ?_⟩
        have hlen : ((es.drop l.toNat).take (hh.toNat - l.toNat)).length = hh.toNat - l.toNat := by simp; omega
        have hkk : ∀ i (h : i < es.length), k = sz P e := fun i h => by
          have h1 := hk i h
          have h2 := List.all_eq_true.1 hall es[i] (List.getElem_mem h)
          simp at h2; omega
        refine .list _ _ _ _ c (x + l.toNat * k) k (fun i j => u (l.toNat + i) j) hlen.symm (by omega) (by omega) (fun hp => ?_) (fun i hi' => ?_) (fun i j hi' hj => ?_) (fun i hi' j hj => ?_)
        · rw [if_neg (by omega), ha (by omega)]
          simp only [Option.map_some, addr_add]
          rw [hkk 0 (by omega)]
        · simp only [List.getElem_take, List.getElem_drop]
          exact hk _ _
        · have := hi (l.toNat + i) j (by omega) hj
          rw [Nat.add_mul, Nat.add_assoc, ← Nat.add_assoc] at this
          exact this
        · simp only [List.getElem_take, List.getElem_drop] at hj ⊢
          exact hv _ _ j hj
      · exact h.elim
    | _ => exact h.elim
  · exact h.elim

end
end Go.Gg
