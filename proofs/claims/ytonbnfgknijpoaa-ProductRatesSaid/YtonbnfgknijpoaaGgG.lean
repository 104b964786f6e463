/- An own logic over the kit's weakest preconditions, part G: struct literals, and all quiet operations together. Conditions: none. -/
import Derived.Test.YtonbnfgknijpoaaGgF
namespace Go.Gg

section
variable {P : Program} {G : Ghost} {S : St} {w : World} {ty : TypeId}

theorem run_places' : ∀ (fs : List Field), (∀ f ∈ fs, 0 < sz P f.type) →
    (fs.mapM fun f => Functor.map (Prod.mk f.offset) (sizeOf f.type)).run P w = .ok (fs.map fun f => (f.offset, sz P f.type)) w
  | [], _ => by simp
  | f :: rest, h => by
    have h1 := run_sizeOf (P := P) (w := w) (h f (by simp))
    simp [List.mapM_cons, h1, run_places' rest (fun g hg => h g (by simp [hg]))]

theorem foldl_set (off : Nat) : ∀ (xs : List Value) (b : Nat) (cs : Array Value),
    ((xs.zipIdx b).foldl (fun cs (p : Value × Nat) => cs.setIfInBounds (off + p.2) p.1) cs).size = cs.size ∧
    ∀ n, n < cs.size → ((xs.zipIdx b).foldl (fun cs (p : Value × Nat) => cs.setIfInBounds (off + p.2) p.1) cs)[n]? =
      if h : off + b ≤ n ∧ n < off + b + xs.length then some (xs[n - (off + b)]'(by omega)) else cs[n]?
  | [], b, cs => ⟨by simp, fun n _ => by rw [dif_neg (fun hc => by have := hc.1; have := hc.2; simp only [List.length_nil] at *; omega)]; rfl⟩
  | x :: xs, b, cs => by
    obtain ⟨h1, h2⟩ := foldl_set off xs (b + 1) (cs.setIfInBounds (off + b) x)
    simp only [List.zipIdx_cons, List.foldl_cons]
    refine ⟨by rw [h1]; simp, fun n hn => ?_⟩
    rw [h2 n (by simpa using hn)]
    by_cases hc : off + b = n
    · subst hc
      rw [dif_neg (by omega), dif_pos (by simp)]
      simp [hn]
    · by_cases hd : off + (b + 1) ≤ n ∧ n < off + (b + 1) + xs.length
      · rw [dif_pos hd, dif_pos (by simp; omega)]
        obtain ⟨d, hd'⟩ : ∃ d, n - (off + b) = d + 1 := ⟨n - (off + b) - 1, by omega⟩
        have : n - (off + (b + 1)) = d := by omega
        simp only [hd', this, List.getElem_cons_succ]
      · rw [dif_neg hd, dif_neg (by simp; omega), Array.getElem?_setIfInBounds_ne hc]

/-- A part of an aggregate is overwritten. -/
theorem VR.splice {cs : List AV} {xs : Array Value} {a : AV} {v : Value} {off : Nat} (h : VR G (.agg cs) (.agg xs)) (ha : VR G a v) (hs : a.solid = true) (hl : off + a.cells.length ≤ cs.length) :
    VR G (stv (.agg cs) off a) (.agg (v.cells.zipIdx.foldl (fun cs (p : Value × Nat) => cs.setIfInBounds (off + p.2) p.1) xs)) := by
  cases h with
  | agg _ _ hsz hv =>
  obtain ⟨c1, c2⟩ := ha.cells hs
  have hf := foldl_set off v.cells.toList 0 xs
  have he : (v.cells.zipIdx.foldl (fun cs (p : Value × Nat) => cs.setIfInBounds (off + p.2) p.1) xs) = (v.cells.toList.zipIdx 0).foldl (fun cs (p : Value × Nat) => cs.setIfInBounds (off + p.2) p.1) xs := by
    rw [← Array.foldl_toList, Array.toList_zipIdx]
  rw [he]
  have hvl : v.cells.toList.length = a.cells.length := by simpa using c1
  simp only [stv]
  refine .agg _ _ (by rw [hf.1, hsz]; simp; omega) (fun i h1 h2 => ?_)
  have hi : i < xs.size := by rw [hf.1] at h2; exact h2
  have hg := hf.2 i hi
  rw [Array.getElem?_eq_getElem h2] at hg
  split at hg
  · rename_i hc
    simp only [Nat.add_zero] at hc
    have : ((v.cells.toList.zipIdx 0).foldl (fun cs (p : Value × Nat) => cs.setIfInBounds (off + p.2) p.1) xs)[i] = v.cells.toList[i - (off + 0)]'(by omega) := Option.some.inj hg
    rw [this]
    simp only [Nat.add_zero, Array.getElem_toList]
    have e1 : (List.take off cs ++ a.cells ++ List.drop (off + a.cells.length) cs)[i] = a.cells[i - off]'(by omega) := by
      rw [List.getElem_append_left (by simp; omega), List.getElem_append_right (by simp; omega)]
      congr 1
      simp; omega
    rw [e1]
    exact c2 _ _ _
  · rename_i hc
    simp only [Nat.add_zero] at hc
    rw [Array.getElem?_eq_getElem hi] at hg
    rw [Option.some.inj hg]
    have e1 : (List.take off cs ++ a.cells ++ List.drop (off + a.cells.length) cs)[i] = cs[i]'(by omega) := by
      by_cases hlt : i < off
      · rw [List.getElem_append_left (by simp; omega), List.getElem_append_left (by simp; omega), List.getElem_take]
      · rw [List.getElem_append_right (by simp; omega), List.getElem_drop]
        congr 1
        simp; omega
    rw [e1]
    exact hv _ _ _

theorem length_stv {cs : List AV} {a : AV} {off : Nat} (hl : off + a.cells.length ≤ cs.length) : ∃ cs', stv (.agg cs) off a = .agg cs' ∧ cs'.length = cs.length :=
  ⟨_, rfl, by simp; omega⟩

theorem fill_sound (place : Nat → Option (Nat × Nat)) (off : Nat → Nat) (n : Nat) : ∀ (parts : List (Nat × AV)) (vs : List (Nat × Value)) (cs : List AV) (xs : Array Value),
    vs.length = parts.length → (∀ j (h : j < parts.length) (h' : j < vs.length), vs[j].1 = parts[j].1 ∧ VR G parts[j].2 vs[j].2) →
    (∀ p ∈ parts, p.2.solid = true ∧ place p.1 = some (off p.1, p.2.cells.length) ∧ off p.1 + p.2.cells.length ≤ n) → cs.length = n → VR G (.agg cs) (.agg xs) →
    ∃ ys, Instr.fill place xs vs = some ys ∧ VR G (parts.foldl (fun v p => stv v (off p.1) p.2) (.agg cs)) (.agg ys)
  | [], [], cs, xs, _, _, _, _, h => ⟨xs, rfl, h⟩
  | (i, a) :: parts, (i', v) :: vs, cs, xs, hlen, hr, hp, hn, h => by
    have h0 := hr 0 (by simp) (by simp)
    simp only [List.getElem_cons_zero] at h0
    obtain ⟨hii, hv⟩ := h0
    subst hii
    obtain ⟨hs, hpl, hl⟩ := hp (i', a) (by simp)
    simp only at hs hpl hl
    obtain ⟨c1, _⟩ := VR.cells hv hs
    have hx : xs.size = cs.length := by cases h; assumption
    obtain ⟨cs', e1, e2⟩ := length_stv (cs := cs) (a := a) (off := off i') (by omega)
    have hnext := VR.splice h hv hs (off := off i') (by omega)
    rw [e1] at hnext
    obtain ⟨ys, q1, q2⟩ := fill_sound place off n parts vs cs' _ (by simpa using hlen) (fun j h1 h2 => hr (j + 1) (by simpa using h1) (by simpa using h2))
      (fun p hp' => hp p (by simp [hp'])) (by omega) hnext
    refine ⟨ys, ?_, ?_⟩
    · simp only [Instr.fill, hpl]
      rw [if_neg (by simp; omega)]
      exact q1
    · simp only [List.foldl_cons, e1]
      exact q2

theorem tyok_zero {T : TypeId} (h : tyok P T = true) : ∃ i z, P.info? T = some i ∧ i.zero = some z ∧ z.cells.size = i.size ∧ zval P T = z ∧ 0 < i.size ∧ (ofConst z).solid = true := by
  unfold tyok at h
  cases hi : P.info? T with
  | none => simp [hi] at h
  | some i =>
    cases hz : i.zero with
    | none => simp [hi, hz] at h
    | some z =>
      simp only [hi, hz, Bool.and_eq_true, beq_iff_eq, decide_eq_true_eq] at h
      exact ⟨i, z, rfl, hz, h.1.1.1, by simp [zval, hi, hz], h.2, h.1.2⟩
theorem run_zero {T : TypeId} (h : tyok P T = true) : (zeroValue T).run P w = .ok (zval P T) w ∧ VR G (zav P T) (zval P T) := by
  obtain ⟨i, z, hi, hz, _, hv, _⟩ := tyok_zero h
  exact ⟨by simp [zeroValue, typeInfo, hi, hz, hv], VR.ofConst G _⟩

theorem q_build {T : TypeId} {parts : List (Nat × AV)} {vs : List (Nat × Value)} {K : AV → Prop} (hlen : vs.length = parts.length)
    (hr : ∀ j (h : j < parts.length) (h' : j < vs.length), vs[j].1 = parts[j].1 ∧ VR G parts[j].2 vs[j].2) (h : vBuild P T parts K) :
    ∃ v av, (Instr.build T vs.toArray).run P w = .ok v w ∧ K av ∧ VR G av v := by
  unfold vBuild at h
  split at h
  · rename_i fs hd
    obtain ⟨fields, hu, rfl⟩ := td_struct hd
    obtain ⟨h1, h2, hK⟩ := h
    simp only [Bool.and_eq_true, List.all_map, List.all_eq_true, Function.comp, decide_eq_true_eq] at h1
    obtain ⟨⟨hty, hag⟩, hfs⟩ := h1
    obtain ⟨i, z, hi, hz, hzs, hzv, hz0, hzsol⟩ := tyok_zero hty
    have hsz : sz P T = i.size := by simp [sz, hi, hu]
    obtain ⟨hzr, hzV⟩ := run_zero (P := P) (G := G) (w := w) hty
    have hpl := run_places' (P := P) (w := w) fields.toList (fun f hf => hfs f hf)
    have hplA : (fields.mapM fun f => do pure (f.offset, ← sizeOf f.type) : Sem (Array (Nat × Nat))).run P w = .ok (fields.map fun f => (f.offset, sz P f.type)) w := by
      simp [Array.mapM_eq_mapM_toList, hpl]
      apply Array.ext'; simp
    obtain ⟨cs, hcs⟩ : ∃ cs, zav P T = .agg cs := by
      cases hz' : zav P T with
      | agg cs => exact ⟨cs, rfl⟩
      | _ => simp [isAggZ, hz'] at hag
    rw [hcs] at hzV hK
    obtain ⟨xs, hxs⟩ : ∃ xs, zval P T = .agg xs := by
      generalize zval P T = zz at hzV
      cases hzV; exact ⟨_, rfl⟩
    rw [hxs] at hzV
    have hn : cs.length = sz P T := by
      cases hzV with
      | agg _ _ hq _ => rw [hsz, ← hzs, ← hzv, hxs]; simp [Value.cells, hq]
    obtain ⟨ys, y1, y2⟩ := fill_sound (G := G) ((fields.map fun f => (f.offset, sz P f.type))[·]?) (fun i => ((fields.toList.map fun f => (f.offset, f.type)).getD i (0, 0)).1) (sz P T) parts vs cs xs hlen hr
      (fun p hp => by
        have := List.all_eq_true.1 h2 p hp
        simp only [Bool.and_eq_true, beq_iff_eq, decide_eq_true_eq] at this
        obtain ⟨⟨⟨a1, a2⟩, a3⟩, a4⟩ := this
        obtain ⟨fd, f1, f2⟩ := fs_getD a3
        refine ⟨a1, ?_, a4⟩
        rw [f2] at a2 ⊢
        simp [f1, a2]) hn hzV
    refine ⟨.agg ys, _, ?_, hK, y2⟩
    simp only [Instr.build, Sem.run_bind, hzr, Result.andThen_ok, run_underlying hu, hplA, hxs, Value.cells]
    simp only [Array.getElem?_map] at y1
    simp [y1]
  · exact h.elim

theorem q_len {T : TypeId} {a : AV} {x : Value} {K : AV → Prop} (hx : VR G a x) (h : vLen P T a K) :
    ∃ v av, (Builtin.len_ #[T] ty #[x]).run P w = .ok v w ∧ K av ∧ VR G av v := by
  unfold vLen at h
  split at h
  · rename_i e hd
    have hu := td_slice hd
    cases hx with
    | sl kk r k g off len a L hL hk hc hm ha => exact ⟨_, _, by simp [Builtin.len_, run_underlying hu]; rfl, h, .int _ _⟩
    | list es a n cap c x k u hn hcap hm ha hk hi hv => subst hn; exact ⟨_, _, by simp [Builtin.len_, run_underlying hu]; rfl, h, .int _ _⟩
    | nil => exact ⟨_, _, by simp [Builtin.len_, run_underlying hu]; rfl, h, .int _ _⟩
    | _ => exact h.elim
  · exact h.elim

theorem q_assert {T xT : TypeId} {ok : Bool} {a : AV} {x : Value} {K : AV → Prop} (hx : VR G a x) (h : vAssert P T ok a K) :
    ∃ v av, (Instr.typeAssert x xT T ok).run P w = .ok v w ∧ K av ∧ VR G av v := by
  obtain ⟨hc, h⟩ := h
  obtain ⟨d, hd, hne⟩ := td_concrete hc
  have hpair : ∀ (b c : AV) (x y : Value), VR G b x → VR G c y → VR G (.tuple [b, c]) (.tuple #[x, y]) := fun b c x y h1 h2 =>
    .tuple _ _ rfl (fun i hi _ => by
      match i with
      | 0 => exact h1
      | 1 => exact h2)
  have hz : tyok P T = true → ok = true → ∀ static dynamic missing, (do
      if ok then pure (.tuple #[← zeroValue T, .bool false]) else runtimePanic (.typeAssertion static dynamic T missing) : Sem Value).run P w = .ok (.tuple #[zval P T, .bool false]) w := by
    intro hty hok st dy mi
    simp [hok, (run_zero (P := P) (G := G) (w := w) hty).1]
  cases hx with
  | iface t v y hv =>
    obtain ⟨h1, h2⟩ := h
    by_cases ht : t = T
    · subst ht
      have h3 := h1 rfl
      cases ok with
      | true =>
        refine ⟨.tuple #[y, .bool true], _, ?_, h3, hpair _ _ _ _ hv (.bool _)⟩
        simp only [Instr.typeAssert, Sem.run_bind, run_underlying hd, Result.andThen_ok]
        cases d <;> first | exact absurd rfl (hne _) | simp
      | false =>
        refine ⟨y, _, ?_, h3, hv⟩
        simp only [Instr.typeAssert, Sem.run_bind, run_underlying hd, Result.andThen_ok]
        cases d <;> first | exact absurd rfl (hne _) | simp
    · obtain ⟨h3, h4, h5⟩ := h2 ht
      refine ⟨.tuple #[zval P T, .bool false], _, ?_, h5, hpair _ _ _ _ (run_zero (w := w) h4).2 (.bool _)⟩
      simp only [Instr.typeAssert, Sem.run_bind, run_underlying hd, Result.andThen_ok]
      have := hz h4 h3
      cases d <;> first | exact absurd rfl (hne _) | (simp only [if_neg ht]; exact hz h4 h3 _ _ _)
  | niface =>
    obtain ⟨h3, h4, h5⟩ := h
    refine ⟨.tuple #[zval P T, .bool false], _, ?_, h5, hpair _ _ _ _ (run_zero (w := w) h4).2 (.bool _)⟩
    simp only [Instr.typeAssert, Sem.run_bind, run_underlying hd, Result.andThen_ok]
    cases d <;> first | exact absurd rfl (hne _) | exact hz h4 h3 _ _ _
  | _ => exact h.elim

theorem vq_sound {o : Oper} {e : Operand → AV} {K : AV → Prop} (h : vq P o.op e S K) : QOp P o e S K := by
  intro G ρ w hr he
  obtain ⟨dst, op, ty, pos, after, guard⟩ := o
  simp only at h
  have lift : ∀ (s : Sem Value) , (∃ v av, s.run P w = .ok v w ∧ K av ∧ VR G av v) → ∃ v av, ((do pure (.value (← s))) : Sem Next).run P w = .ok (.value v) w ∧ K av ∧ VR G av v := by
    rintro s ⟨v, av, h1, h2, h3⟩
    exact ⟨v, av, by simp [h1], h2, h3⟩
  cases op with
  | move x => exact ⟨ρ x, _, by simp [execOp], h, he x⟩
  | assign x => exact ⟨ρ x, _, by simp [execOp], h, he x⟩
  | pick c a b =>
    simp only [vq] at h
    split at h
    · rename_i v hc
      have hcc := he c
      rw [hc] at hcc
      generalize hcv : ρ c = cv at hcc
      cases hcc
      refine ⟨if v then ρ a else ρ b, _, by simp [execOp, hcv, asBool], h, ?_⟩
      cases v
      · exact he b
      · exact he a
    · exact h.elim
  | binOp bop T x y yT =>
    exact lift _ (q_bin (he x) (he y) h (fun hx => by cases x <;> first | exact ⟨_, rfl⟩ | cases hx) (fun hy => by cases y <;> first | exact ⟨_, rfl⟩ | cases hy))
  | unOp u T x => exact lift _ (q_un (he x) h)
  | convert src dst' x =>
    simp only [vq] at h
    split at h
    · rename_i k n k' k'' hx hd hs
      have hxx := he x
      rw [hx] at hxx
      generalize hcv : ρ x = cv at hxx
      cases hxx
      refine lift _ ⟨_, _, ?_, h, .int _ _⟩
      simp [hcv, convert, run_underlying (td_int hs), run_underlying (td_int hd), Conv.intToInt]
    · exact h.elim
  | makeInterface T x =>
    obtain ⟨hc, h⟩ := h
    obtain ⟨d, hd, hne⟩ := td_concrete hc
    refine lift _ ⟨_, _, ?_, h, .iface _ _ _ (he x)⟩
    simp only [Instr.makeInterface, Sem.run_bind, run_underlying hd, Result.andThen_ok]
    cases d <;> first | exact absurd rfl (hne _) | rfl
  | makeFunc fn first caps =>
    refine lift _ ⟨.func fn (first.map ρ) (caps.map ρ), _, by simp [Instr.makeFunc], h, .fn _ _ _ _ _ (by simp) (by simp) (fun i h1 h2 => ?_) (fun i h1 h2 => ?_)⟩
    · simpa using he _
    · simpa using he _
  | build T parts =>
    simp only [vq] at h
    have := q_build (P := P) (G := G) (w := w) (T := T) (parts := parts.toList.map fun p => (p.1, e p.2)) (vs := parts.toList.map fun p => (p.1, ρ p.2)) (by simp)
      (fun j h1 h2 => by simpa using he _) h
    have hq : (parts.toList.map fun p => (p.1, ρ p.2)).toArray = parts.map fun p => (p.1, ρ p.2) := by apply Array.ext'; simp
    rw [hq] at this
    exact lift _ this
  | load T a => exact lift _ (q_load hr (he a) h)
  | nilCheck x =>
    obtain ⟨hc, h⟩ := h
    have hx := he x
    generalize hcv : ρ x = cv at hx
    refine ⟨cv, _, ?_, h, hx⟩
    cases hx' : e x <;> rw [hx'] at hc hx <;> first
      | exact hc.elim
      | (cases hx; simp [execOp, hcv]; done)
      | skip
    rename_i f first caps
    cases f <;> first | exact hc.elim | (cases hx; simp [execOp, hcv])
  | fieldAddr T x f => exact lift _ (q_fieldAddr (he x) h)
  | field T x f => exact lift _ (q_field (he x) h)
  | indexAddr T x i => exact lift _ (q_idxAddr (he x) (he i) h)
  | index T x i => exact lift _ (q_index (he x) (he i) h)
  | slice T x lo hi mx =>
    refine lift _ (q_slice (he x) (lo := lo.map e) (hi := hi.map e) (mx := mx.map e) (fun a ha => ?_) (fun hn => ?_) (fun a ha => ?_) (fun hn => ?_) (fun hn => ?_) h)
    · cases lo with
      | none => simp at ha
      | some z => simp at ha; subst ha; exact ⟨_, rfl, he z⟩
    · cases lo with
      | none => rfl
      | some z => simp at hn
    · cases hi with
      | none => simp at ha
      | some z => simp at ha; subst ha; exact ⟨_, rfl, he z⟩
    · cases hi with
      | none => rfl
      | some z => simp at hn
    · cases mx with
      | none => rfl
      | some z => simp at hn
  | extract x i =>
    simp only [vq] at h
    split at h
    · rename_i vs hx
      have hxx := he x
      rw [hx] at hxx
      generalize hcv : ρ x = cv at hxx
      cases hxx with
      | tuple _ xs hs hv =>
      obtain ⟨hi, h⟩ := h
      have hi' : i < xs.size := by omega
      refine lift _ ⟨xs[i], _, ?_, h, ?_⟩
      · simp [Instr.extract, hi', hcv]
      · rw [List.getD_eq_getElem?_getD, List.getElem?_eq_getElem hi]
        exact hv i hi hi'
    · exact h.elim
  | typeAssert x xT T ok => exact lift _ (q_assert (he x) h)
  | call c =>
    obtain ⟨callee, xs, ts⟩ := c
    cases callee with
    | value f => exact h.elim
    | invoke r m => exact h.elim
    | builtin b =>
      cases b <;> first | exact h.elim | skip
      · simp only [vq] at h
        split at h
        · rename_i x t hx ht
          obtain rfl : xs = #[x] := by cases xs; simp_all
          obtain rfl : ts = #[t] := by cases ts; simp_all
          obtain ⟨v, av, h1, h2, h3⟩ := q_len (P := P) (w := w) (ty := ty) (he x) h
          exact ⟨v, av, by simp [execOp, resolve, invoke, builtin, h1], h2, h3⟩
        · exact h.elim
      · simp only [vq] at h
        split at h
        · rename_i x y hx
          obtain rfl : xs = #[x, y] := by cases xs; simp_all
          split at h
          · rename_i k m k' n e1 e2
            have q1 := he x
            have q2 := he y
            rw [e1] at q1
            rw [e2] at q2
            generalize c1 : ρ x = v1 at q1
            generalize c2 : ρ y = v2 at q2
            cases q1; cases q2
            exact ⟨.int k (if m < n then n else m), _, by simp [execOp, resolve, invoke, builtin, c1, c2, Builtin.max_, Builtin.max2], h, .int _ _⟩
          · exact h.elim
        · exact h.elim
      · simp only [vq] at h
        split at h
        · rename_i x y hx
          obtain rfl : xs = #[x, y] := by cases xs; simp_all
          split at h
          · rename_i k m k' n e1 e2
            have q1 := he x
            have q2 := he y
            rw [e1] at q1
            rw [e2] at q2
            generalize c1 : ρ x = v1 at q1
            generalize c2 : ρ y = v2 at q2
            cases q1; cases q2
            exact ⟨.int k (if n < m then n else m), _, by simp [execOp, resolve, invoke, builtin, c1, c2, Builtin.min_, Builtin.min2], h, .int _ _⟩
          · exact h.elim
        · exact h.elim
  | _ => exact h.elim
end
end Go.Gg
