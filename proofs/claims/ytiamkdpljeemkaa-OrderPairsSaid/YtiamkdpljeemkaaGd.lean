/- An own logic over the kit's weakest preconditions, part Z: clear, copy, rows cut short. Conditions: none. -/
import Derived.Test.YtiamkdpljeemkaaGd0
/- An own logic over the kit's weakest preconditions, part Z: clear, copy, rows cut short. Conditions: none. -/
namespace Go.Gg
open Go.RowKit (Below)
/-- The cells of a row's block are laid anew. -/
theorem Rel.setRow {G : Ghost} {S : St} {w : World} (hr : Rel G S w) {r k g kk : Nat} {es : List AV} (hS : S r k = some (.arr kk es, g)) {L : Loc} (hL : G.loc r k g = some L) (hc : 0 < L.cap)
    {row : Array Value} (hrow : w.heap[L.block]? = some (.cells row L.t (0, 0))) (row' : Array Value) (hs : row'.size = L.cap * L.k) (es' : List AV) (hl : es'.length ≤ L.cap) (hcl : ∀ i (h : i < es'.length), es'[i].cells.length = L.k)
    (hv : ∀ i (h : i < es'.length) j (h' : j < es'[i].cells.length), ∃ x, row'[i * L.k + j]? = some x ∧ VR G es'[i].cells[j] x) :
    ∃ G', G.le G' ∧ Rel G' (S.set r k (.arr L.k es') g) (w.setRow L.block row') := by
  obtain ⟨L', hL', hobj, _⟩ := hr.obj _ _ _ _ hS
  obtain rfl : L' = L := by rw [hL] at hL'; exact (Option.some.inj hL').symm
  obtain ⟨hk0, hkk, _, hm, _, _⟩ := hobj
  have hset := setRow_heap w L'.block row row' L'.t (0, 0) hrow
  obtain ⟨G', q1, _, _, q4⟩ := hr.put (w' := w.setRow L'.block row') (row := some L'.block) ⟨rfl, rfl, rfl, by simp, fun b _ hb => setRow_other w L'.block b _ (fun e => hb (by rw [e]))⟩ r k g
    (.arr L'.k es') L' (fun b hb => by injection hb with hb; subst hb; exact ⟨_, _, _, hS, hL, hc, rfl⟩) (fun hc => .inr ⟨_, _, _, hS, hL, hc, rfl⟩) (.inr hL)
    (fun G' hle => arr_at hset (by omega) hs hl hm hcl (fun i hi j hj => let ⟨x, a, b⟩ := hv i hi j hj; ⟨x, a, b.mono hle⟩))
  exact ⟨G', q1, q4⟩
/-- Less is known of a row. -/
theorem Rel.cut {G : Ghost} {S : St} {w : World} (hr : Rel G S w) {r k g kk : Nat} {es : List AV} (hS : S r k = some (.arr kk es, g)) (n : Nat) : Rel G (S.set r k (.arr kk (es.take n)) g) w := by
  refine hr.remap (fun r' k' o' g' e => ?_)
  simp only [St.set] at e
  split at e
  · rename_i hc
    obtain ⟨rfl, rfl⟩ := hc
    cases e
    refine ⟨_, hS, fun L hL => ?_⟩
    obtain ⟨L', hL', hobj, _⟩ := hr.obj _ _ _ _ hS
    obtain rfl : L' = L := by rw [hL] at hL'; exact (Option.some.inj hL').symm
    obtain ⟨h1, h2, h3, h3', h4, h5⟩ := hobj
    refine ⟨h1, h2, by simp; omega, h3', fun i hi => ?_, fun hc => ?_⟩
    · simp only [List.getElem_take]; exact h4 i _
    · obtain ⟨row, a1, a2, a3⟩ := h5 hc
      refine ⟨row, a1, a2, fun i hi j hj => ?_⟩
      simp only [List.getElem_take] at hj ⊢
      exact a3 i _ j hj
  · refine ⟨o', e, fun L hL => ?_⟩
    obtain ⟨L', hL', hobj, _⟩ := hr.obj _ _ _ _ e
    obtain rfl : L' = L := by rw [hL] at hL'; exact (Option.some.inj hL').symm
    exact hobj
theorem EWk.cut {α : Type} {enc : α → AV} {t : Env} {S0 S' : St} {r k g kk : Nat} {l l' : List α} (n : Nat) (hS : S0 r k = some (.arr kk (l.map enc), g)) (hl : l.take n = l') (hset : S0.set r k (.arr kk (l'.map enc)) g = S') : EWk t S0 t S' := fun _ G _ _ hr ht =>
  ⟨G, Ghost.le.refl G, by rw [← hset, ← hl, List.map_take]; exact hr.cut hS n, ht⟩
section
variable {P : Program} {G : Ghost} {S : St} {w : World}
theorem zero_ones {z : Array Value} {n : Nat} (h : ∀ u ∈ z.toList, u.oneCell' = true) : ∀ u ∈ (Builtin.zeroCells z n).toList, u.oneCell' = true := fun u hu => by
  simp only [Builtin.zeroCells, Array.toList_map, List.mem_map, Array.toList_range, List.mem_range] at hu
  obtain ⟨j, hj, rfl⟩ := hu
  have hz : 0 < z.size := by
    rcases Nat.eq_zero_or_pos z.size with h0 | h0
    · rw [h0] at hj; omega
    · exact h0
  have hm : j % z.size < z.size := Nat.mod_lt _ hz
  rw [getElem!_pos z (j % z.size) hm]
  exact h _ (by simp)
/-- clear: what lies from a place on is known no more. -/
theorem sop_clear {n : Nat} {o : Oper} {t : Env} {T e : TypeId} {x : Operand} {K : AV → St → Prop} (ho : o.op = .call { callee := .builtin .clear, args := #[x], argTypes := #[T] }) (hT : td P T = .slice e) (hty : tyok P e = true) {kk r k g off len : Nat} {es : List AV}
    (hx : ev t x = .sl kk r k g off len) (hS : S r k = some (.arr kk es, g)) (hk : (zav P e).cells.length = kk) (h1 : allOne (zav P e).cells = true) (h : K .junk (S.set r k (.arr kk (es.take off)) g)) : SOp P n o t S K := by
  refine sop_value (fun ρ => Builtin.clear_ #[T] o.type #[ρ x]) (fun ρ => by simp [execOp, ho, resolve, invoke, builtin]) fun G ρ w hr he => ?_
  have hv := he x
  rw [hx] at hv
  generalize ρ x = vx at hv
  cases hv with
  | sl _ _ _ _ _ _ a L hL hLk hc hm ha =>
  obtain ⟨L', hL', hobj, _⟩ := hr.obj _ _ _ _ hS
  obtain rfl : L' = L := by rw [hL] at hL'; exact (Option.some.inj hL').symm
  obtain ⟨hk0, _, hcap, _, hcl, hrows⟩ := hobj
  by_cases hl0 : len = 0
  · subst hl0
    refine ⟨.tuple #[], w, .junk, _, G, ?_, h, Ghost.le.refl G, hr.cut hS off, .junk _⟩
    cases a <;> simp [Builtin.clear_, run_underlying (td_slice hT)]
  · have hc0 : 0 < L'.cap := by omega
    obtain ⟨row, hrow, hrs, hel⟩ := hrows hc0
    have hae := ha (by omega)
    subst hae
    obtain ⟨i, z, hi, hz, hzs, hzv, hz0, hzsol⟩ := tyok_zero hty
    obtain ⟨q1, q2⟩ := run_zero (P := P) (G := G) (w := w) hty
    obtain ⟨b1, b2, b3, b4⟩ := one_at (P := P) (G := G) hty hi hz
    rw [hzv] at q1
    have hzone : ∀ u ∈ z.cells.toList, u.oneCell' = true := fun u hu => by
      obtain ⟨j, hj, rfl⟩ := List.mem_iff_getElem.1 hu
      simp only [Array.length_toList] at hj
      rw [Array.getElem_toList]
      have hj' : j < (zav P e).cells.length := by omega
      exact (b4 j hj' hj).oneCell (List.all_eq_true.1 h1 _ (List.getElem_mem hj'))
    obtain ⟨zs, hzs'⟩ : ∃ zs : List Value, zs = (Builtin.zeroCells z.cells len).toList := ⟨_, rfl⟩
    have hzl : zs.length = len * kk := by
      rw [hzs', Array.length_toList, size_zeroCells, b2, ← b3, hk]
    have hzo : ∀ u ∈ zs, u.oneCell' = true := by rw [hzs']; exact zero_ones hzone
    have hfit : off * L'.k + zs.length ≤ row.size := by
      rw [hzl, hrs, hLk, ← Nat.add_mul]
      exact Nat.mul_le_mul_right _ hc
    have hst := run_storeCells_at P L'.block (off * L'.k) L'.t zs 0 row w hrow (by simpa using hfit) hzo
    simp only [Nat.add_zero] at hst
    have hlt : (row.toList.take (off * L'.k)).length = off * L'.k := by simp; omega
    obtain ⟨G', p1, p2⟩ := hr.setRow hS hL hc0 hrow (row.toList.take (off * L'.k) ++ zs ++ row.toList.drop (off * L'.k + zs.length)).toArray (by
        simp only [List.size_toArray, List.length_append, List.length_take, List.length_drop, Array.length_toList]
        rw [hLk] at hfit ⊢
        omega) (es.take off) (by simp; omega) (fun i hi => by simp only [List.getElem_take]; rw [hLk]; exact hcl i _)
      (fun i hi j hj => by
        simp only [List.getElem_take] at hj ⊢
        have hi' : i < off ∧ i < es.length := by rw [List.length_take] at hi; omega
        obtain ⟨y, y1, y2⟩ := hel i hi'.2 j hj
        refine ⟨y, ?_, y2⟩
        have hjk : j < kk := by rw [← hcl i hi'.2]; exact hj
        have := flat_lt (k := kk) hi'.1 hjk
        simp only [List.getElem?_toArray]
        rw [hLk] at hlt ⊢
        rw [List.append_assoc, List.getElem?_append_left (by omega), List.getElem?_take, if_pos this]
        simpa using y1)
    rw [hLk] at p2
    refine ⟨.tuple #[], _, .junk, _, G', ?_, h, p1, p2, .junk _⟩
    rw [hLk]
    rw [hLk] at hst
    cases len with
    | zero => exact absurd rfl hl0
    | succ m => simp [Builtin.clear_, run_underlying (td_slice hT), q1, ← hzs', hst, Result.andThen]
theorem Wl.clear {n : Nat} {ops rest : List Oper} {K : Env → St → Prop} {d : Option Nat} {ty : TypeId} {pos : String} {after : Array Edge} {t : Env} {S S' : St} {α : Type} {enc : α → AV} {l l' : List α} {T e : TypeId} {x : Operand} {kk r k g off len : Nat} {z : AV}
    (hT : td P T = .slice e) (hty : tyok P e = true) (hx : ev t x = .sl kk r k g off len) (hS : S r k = some (.arr kk (l.map enc), g)) (hz : zav P e = z) (hk : z.cells.length = kk) (h1 : allOne z.cells = true) (hl : l.take off = l') (hset : S.set r k (.arr kk (l'.map enc)) g = S')
    (h : Wl P n ops rest K (updo t d .junk) S') : Wl P n ops (⟨d, .call { callee := .builtin .clear, args := #[x], argTypes := #[T] }, ty, pos, after, none⟩ :: rest) K t S := by
  subst hz
  refine Wl.stepS (sop_clear rfl hT hty hx hS hk h1 ?_) rfl
  rw [← List.map_take, hl, hset]
  exact h
/-! ### copy -/
theorem sop_copy {n : Nat} {o : Oper} {t : Env} {T T' e : TypeId} {x y : Operand} {K : AV → St → Prop} (ho : o.op = .call { callee := .builtin .copy, args := #[x, y], argTypes := #[T, T'] }) (hT : td P T = .slice e) {kk r k g m : Nat} {es xs : List AV}
    (hsz : sz P e = kk) (hx : ev t x = .sl kk r k g 0 m) (hm : m = es.length) (hy : ev t y = .list xs) (hl : xs.length = es.length) (hS : S r k = some (.arr kk es, g)) (hxk : ∀ a ∈ xs, a.cells.length = kk) (hx1 : ∀ a ∈ xs, allOne a.cells = true) (h : K (.int .i64 (xs.length : Nat)) (S.set r k (.arr kk xs) g)) : SOp P n o t S K := by
  refine sop_value (fun ρ => Builtin.copy_ #[T, T'] o.type #[ρ x, ρ y]) (fun ρ => by simp [execOp, ho, resolve, invoke, builtin]) fun G ρ w hr he => ?_
  have hv := he x
  have hu := he y
  rw [hx] at hv
  rw [hy] at hu
  generalize ρ x = vx at hv
  generalize ρ y = vy at hu
  subst hm
  cases hv with
  | sl _ _ _ _ _ _ a L hL hLk hc hmx ha =>
  obtain ⟨L', hL', hobj, _⟩ := hr.obj _ _ _ _ hS
  obtain rfl : L' = L := by rw [hL] at hL'; exact (Option.some.inj hL').symm
  obtain ⟨hk0, _, hcap, _, hcl, hrows⟩ := hobj
  obtain ⟨ao, cap, news, rfl, n1, n2, n3, n4, n5⟩ := view_cells (P := P) hr hu (es := xs) rfl hxk hk0
  have hrs : (sizeOf e).run P w = .ok kk w := by rw [← hsz]; exact run_sizeOf (by omega)
  have hf := n4 w rfl
  have hmin : Nat.min xs.length es.length = xs.length := by rw [hl]; exact Nat.min_self _
  by_cases hc0 : 0 < L'.cap
  · obtain ⟨row, hrow, hrsz, hel⟩ := hrows hc0
    have hae := ha hc0
    subst hae
    have hones : ∀ z ∈ news, z.oneCell' = true := by
      intro z hz
      obtain ⟨p, hp, rfl⟩ := List.mem_iff_getElem.1 hz
      have hpd : p / kk < xs.length := Nat.div_lt_of_lt_mul (by rw [Nat.mul_comm]; omega)
      have hdm : p / kk * kk + p % kk = p := by rw [Nat.mul_comm]; exact Nat.div_add_mod p kk
      have hxk' := hxk _ (List.getElem_mem hpd)
      have hjm : p % kk < xs[p / kk].cells.length := by rw [hxk']; exact Nat.mod_lt _ hk0
      obtain ⟨q, q1, q2⟩ := n5 _ hpd _ hjm
      rw [hdm, List.getElem?_eq_getElem hp] at q1
      rw [Option.some.inj q1]
      exact q2.oneCell (List.all_eq_true.1 (hx1 _ (List.getElem_mem hpd)) _ (List.getElem_mem hjm))
    have hfit : 0 + news.length ≤ row.size := by
      rw [n3, hrsz, Nat.zero_add]
      exact Nat.mul_le_mul_right _ (by omega)
    have hst := run_storeCells_at P L'.block 0 L'.t news 0 row w hrow (by simpa using hfit) hones
    simp only [Nat.zero_add, List.take_zero, List.nil_append] at hst
    obtain ⟨G', p1, p2⟩ := hr.setRow hS hL hc0 hrow (news ++ row.toList.drop news.length).toArray (by
        simp only [List.size_toArray, List.length_append, List.length_drop, Array.length_toList]
        rw [hLk]; omega) xs (by omega) (fun i hi => by rw [hLk]; exact hxk _ (List.getElem_mem hi))
      (fun i hi j hj => by
        obtain ⟨q, q1, q2⟩ := n5 i hi j hj
        refine ⟨q, ?_, q2⟩
        have hjk : j < kk := by rw [← hxk _ (List.getElem_mem hi)]; exact hj
        simp only [List.getElem?_toArray]
        rw [hLk, List.getElem?_append_left (by rw [n3]; exact flat_lt hi hjk)]
        exact q1)
    rw [hLk] at p2
    refine ⟨.int .i64 (xs.length : Nat), _, .int .i64 (xs.length : Nat), _, G', ?_, h, p1, p2, .int _ _⟩
    have hz : 0 * L'.k = 0 := Nat.zero_mul _
    rw [hz]
    simp [Builtin.copy_, run_underlying (td_slice hT), Builtin.lenOf, hrs, hmin, hf, hst, goInt, Result.andThen]
  · have hx0 : xs = [] := List.eq_nil_of_length_eq_zero (by omega)
    subst hx0
    have hn0 : news = [] := List.eq_nil_of_length_eq_zero (by rw [n3]; simp)
    subst hn0
    have he0 : es = [] := List.eq_nil_of_length_eq_zero (by rw [← hl]; rfl)
    subst he0
    refine ⟨.int .i64 0, w, .int .i64 0, _, G, ?_, h, Ghost.le.refl G, hr.cut hS 0, .int _ _⟩
    have hst : ∀ z : Addr, (storeCells z [] 0).run P w = .ok () w := fun _ => rfl
    simp only [List.length_nil] at hf
    cases a <;> simp [Builtin.copy_, run_underlying (td_slice hT), Builtin.lenOf, hrs, hf, hst, goInt, Result.andThen]
theorem Wl.copy {n : Nat} {ops rest : List Oper} {K : Env → St → Prop} {d : Option Nat} {ty : TypeId} {pos : String} {after : Array Edge} {t : Env} {S S' : St} {α : Type} {enc : α → AV} {l l' : List α} {T T' e : TypeId} {x y : Operand} {kk r k g m : Nat}
    (hT : td P T = .slice e) (hsz : sz P e = kk) (hk : ∀ a, (enc a).cells.length = kk) (h1 : ∀ a, allOne (enc a).cells = true) (hx : ev t x = .sl kk r k g 0 m) (hm : m = l.length) (hy : ev t y = eL enc l') (hl : l'.length = l.length) (hS : S r k = some (.arr kk (l.map enc), g)) (hset : S.set r k (.arr kk (l'.map enc)) g = S')
    (h : Wl P n ops rest K (updo t d (.int .i64 (l'.length : Nat))) S') : Wl P n ops (⟨d, .call { callee := .builtin .copy, args := #[x, y], argTypes := #[T, T'] }, ty, pos, after, none⟩ :: rest) K t S := by
  refine Wl.stepS (sop_copy rfl hT hsz hx (by simpa using hm) hy (by simpa using hl) hS (fun a ha => by obtain ⟨b, _, rfl⟩ := List.mem_map.1 ha; exact hk b) (fun a ha => by obtain ⟨b, _, rfl⟩ := List.mem_map.1 ha; exact h1 b) ?_) rfl
  rw [hset, List.length_map]
  exact h
end
end Go.Gg
