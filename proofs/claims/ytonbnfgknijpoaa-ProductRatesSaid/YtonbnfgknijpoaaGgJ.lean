/- An own logic over the kit's weakest preconditions, part J: append. Conditions: none. -/
import Derived.Test.YtonbnfgknijpoaaGgI
namespace Go.Gg
open Go.RowKit (Below)

/-- The elements that a slice shows. -/
def view (S : St) : AV → Option (List AV)
  | .nil => some []
  | .list es => some es
  | .sl kk r k g off len => match S r k with
    | some (.arr kk' es, g') => if g' = g ∧ kk' = kk ∧ off + len ≤ es.length then some ((es.drop off).take len) else none
    | _ => none
  | _ => none

section
variable {P : Program} {G : Ghost} {S : St} {w : World}

/-- The cells behind a slice, in every world with the same heap. -/
theorem view_cells {a : AV} {v : Value} {es : List AV} {kk : Nat} (hr : Rel G S w) (hv : VR G a v) (hs : view S a = some es) (hk : ∀ e ∈ es, e.cells.length = kk) (hk0 : 0 < kk) :
    ∃ (ao : Option Addr) (cap : Nat) (news : List Value), v = .slice ao es.length cap ∧ es.length ≤ cap ∧ cap ≤ maxLen ∧ news.length = es.length * kk ∧
      (∀ w' : World, w'.heap = w.heap → (Builtin.firstCells kk es.length v).run P w' = .ok news.toArray w') ∧
      (∀ i (h : i < es.length) j (h' : j < es[i].cells.length), ∃ x, news[i * kk + j]? = some x ∧ VR G es[i].cells[j] x) := by
  -- from a place where the cells lie
  have key : ∀ (c x cap : Nat) (ao : Option Addr) (u : Nat → Nat → Value), (0 < es.length → ao = some ⟨c, x, none⟩) → es.length ≤ cap → cap ≤ maxLen →
      (∀ i j, i < es.length → j < kk → w.cell? ⟨c, x + (i * kk + j), none⟩ = some (u i j)) → (∀ i (h : i < es.length) j (h' : j < es[i].cells.length), VR G es[i].cells[j] (u i j)) →
      ∃ (news : List Value), news.length = es.length * kk ∧
      (∀ w' : World, w'.heap = w.heap → (Builtin.firstCells kk es.length (.slice ao es.length cap)).run P w' = .ok news.toArray w') ∧
      (∀ i (h : i < es.length) j (h' : j < es[i].cells.length), ∃ x, news[i * kk + j]? = some x ∧ VR G es[i].cells[j] x) := by
    intro c x cap ao u ha h1 h2 hc hV
    refine ⟨(List.range (es.length * kk)).map fun p => u (p / kk) (p % kk), by simp, fun w' hw => ?_, fun i h j h' => ?_⟩
    · cases hl : es.length with
      | zero =>
        cases ao with
        | none => simp [Builtin.firstCells]
        | some b => simp [Builtin.firstCells, loadCells, loadCellsFrom]
      | succ m =>
        rw [← hl, ha (by omega)]
        refine run_firstCells_some (P := P) w' kk es.length _ es.length cap _ (by simp) (fun p q hq => ?_)
        have hp : p < es.length * kk := by
          by_cases hp : p < es.length * kk
          · exact hp
          · simp [hp] at hq
        simp [hp] at hq
        subst hq
        have hpd : p / kk < es.length := Nat.div_lt_of_lt_mul (by rw [Nat.mul_comm]; exact hp)
        have hc' := hc (p / kk) (p % kk) hpd (Nat.mod_lt _ hk0)
        have hdm : p / kk * kk + p % kk = p := by rw [Nat.mul_comm]; exact Nat.div_add_mod p kk
        rw [hdm] at hc'
        rw [addr_add]
        have : w'.cell? ⟨c, x + p, none⟩ = w.cell? ⟨c, x + p, none⟩ := by simp [World.cell?, hw]
        rw [this, hc']
    · have hjk : j < kk := by rw [← hk es[i] (List.getElem_mem h)]; exact h'
      have hlt : i * kk + j < es.length * kk := flat_lt h hjk
      have e1 : (i * kk + j) / kk = i := by rw [Nat.mul_comm, Nat.mul_add_div (by omega), Nat.div_eq_of_lt hjk]; rfl
      have e2 : (i * kk + j) % kk = j := by rw [Nat.mul_comm, Nat.mul_add_mod, Nat.mod_eq_of_lt hjk]
      refine ⟨u i j, ?_, hV i h j h'⟩
      simp [hlt, e1, e2]
  cases hv with
  | nil =>
    simp only [view, Option.some.injEq] at hs
    subst hs
    obtain ⟨news, q1, q2, q3⟩ := key 0 0 0 none (fun _ _ => undef) (fun h => by simp at h) (by simp) (by simp) (fun i _ h => by simp at h) (fun i h => by simp at h)
    exact ⟨none, 0, news, rfl, by simp, by simp, q1, q2, q3⟩
  | list es' a n cap c x k u hn hcap hm ha hk' hi hvv =>
    simp only [view, Option.some.injEq] at hs
    subst hs
    subst hn
    obtain ⟨news, q1, q2, q3⟩ := key c x cap a u ha hcap hm (fun i j h1 h2 => by
      have hkk : k = kk := (hk' i h1).symm.trans (hk _ (List.getElem_mem h1))
      subst hkk
      exact hr.imm _ _ _ (hi i j h1 h2)) hvv
    exact ⟨a, cap, news, rfl, hcap, hm, q1, q2, q3⟩
  | sl kk' r k g off len a L hL hkk hc hm ha =>
    simp only [view] at hs
    split at hs
    · rename_i kk'' es' g' hS
      split at hs
      · rename_i hcond
        obtain ⟨rfl, rfl, hle⟩ := hcond
        simp only [Option.some.injEq] at hs
        have hlen : es.length = len := by rw [← hs]; simp; omega
        subst hlen
        obtain ⟨L', hL', hobj, _⟩ := hr.obj _ _ _ _ hS
        obtain rfl : L' = L := by rw [hL] at hL'; exact (Option.some.inj hL').symm
        have hget : ∀ i (h : i < es.length), ∃ h' : off + i < es'.length, es[i] = es'[off + i] := fun i h => ⟨by omega, (List.getElem_of_eq hs.symm h).trans (by rw [List.getElem_take, List.getElem_drop])⟩
        by_cases hl0 : es.length = 0
        · obtain ⟨news, q1, q2, q3⟩ := key 0 0 (L'.cap - off) a (fun _ _ => undef) (fun h => by omega) (by omega) (by omega) (fun i _ h => by omega) (fun i h => by omega)
          exact ⟨a, L'.cap - off, news, rfl, by omega, by omega, q1, q2, q3⟩
        · have hk'' : kk'' = kk := by
            obtain ⟨h', e⟩ := hget 0 (by omega)
            have h1 := hobj.2.2.2.2.1 _ h'
            rw [← e, hk _ (List.getElem_mem (by omega))] at h1
            exact h1.symm
          have hcells : ∀ i j, i < es.length → j < kk → ∃ u, w.cell? ⟨L'.block, off * L'.k + (i * kk + j), none⟩ = some u ∧ ∀ (h : i < es.length) (h' : j < es[i].cells.length), VR G es[i].cells[j] u := by
            intro i j h1 h2
            obtain ⟨h', e⟩ := hget i h1
            obtain ⟨y, y1, y2⟩ := hobj.cell h' (j := j) (by omega)
            refine ⟨y, ?_, fun h h'' => by simp only [e]; exact y2⟩
            rw [hkk, hk''] at *
            rw [Nat.add_mul, Nat.add_assoc] at y1
            exact y1
          obtain ⟨u, hu⟩ : ∃ u : Nat → Nat → Value, ∀ i j, i < es.length → j < kk → w.cell? ⟨L'.block, off * L'.k + (i * kk + j), none⟩ = some (u i j) ∧ ∀ (h : i < es.length) (h' : j < es[i].cells.length), VR G es[i].cells[j] (u i j) := by
            refine ⟨fun i j => if h : i < es.length ∧ j < kk then (hcells i j h.1 h.2).choose else undef, fun i j h1 h2 => ?_⟩
            show w.cell? _ = some (dite _ _ _) ∧ ∀ _ _, VR G _ (dite _ _ _)
            rw [dif_pos (⟨h1, h2⟩ : i < es.length ∧ j < kk)]
            exact (hcells i j h1 h2).choose_spec
          obtain ⟨news, q1, q2, q3⟩ := key L'.block (off * L'.k) (L'.cap - off) a u (fun h => ha (by omega)) (by omega) (by omega) (fun i j h1 h2 => (hu i j h1 h2).1)
            (fun i h j h' => (hu i j h (by rw [← hk _ (List.getElem_mem h)]; exact h')).2 h h')
          exact ⟨a, L'.cap - off, news, rfl, by omega, by omega, q1, q2, q3⟩
      · cases hs
    · cases hs
  | _ => cases hs

/-- append, whatever the base: within the capacity, or into a new row. -/
theorem run_append_fits {t ty e : TypeId} {i : TypeInfo} (ht : P.underlying t = some (.slice e)) (hi : P.info? e = some i) {b : Nat} {n m cap : Nat} {x : Value} {row : Array Value} {et : TypeId} {news : List Value}
    (hx : (Builtin.lenOf x).run P w = .ok m w) (hf : (Builtin.firstCells i.size m x).run P w = .ok news.toArray w) (hrow : w.heap[b]? = some (.cells row et (0, 0))) (h1 : ∀ u ∈ news, u.oneCell' = true)
    (hroom : n + m ≤ cap) (hfit : n * i.size + news.length ≤ row.size) :
    (Builtin.append_ #[t, t] ty #[.slice (some ⟨b, 0, none⟩) n cap, x]).run P w =
      .ok (.slice (some ⟨b, 0, none⟩) (n + m) cap) (w.setRow b (row.toList.take (n * i.size) ++ news ++ row.toList.drop (n * i.size + news.length)).toArray) := by
  have hst := run_storeCells_at P b (n * i.size) et news 0 row w hrow (by simpa using hfit) h1
  simp only [Nat.add_zero] at hst
  simp [Builtin.append_, run_underlying ht, sizeOf, typeInfo, hi, hx, hroom, hf, addr_add, hst]
theorem run_append_none {t ty e : TypeId} {i : TypeInfo} (ht : P.underlying t = some (.slice e)) (hi : P.info? e = some i) {base : Option Addr} {n m cap : Nat} {x : Value} {news : List Value}
    (hx : (Builtin.lenOf x).run P w = .ok m w) (hf : (Builtin.firstCells i.size m x).run P w = .ok news.toArray w) (hn : news = []) (hroom : n + m ≤ cap) :
    (Builtin.append_ #[t, t] ty #[.slice base n cap, x]).run P w = .ok (.slice base (n + m) cap) w := by
  subst hn
  cases base <;> simp [Builtin.append_, run_underlying ht, sizeOf, typeInfo, hi, hx, hroom, hf, storeCells]
theorem run_append_new {t ty e : TypeId} {i : TypeInfo} {z : Value} (ht : P.underlying t = some (.slice e)) (hi : P.info? e = some i) (hz : i.zero = some z) {base : Option Addr} {n m cap : Nat} {x : Value} {olds news : List Value}
    (hx : (Builtin.lenOf x).run P w = .ok m w) (ho : ∀ w' : World, w'.heap = w.heap → (Builtin.firstCells i.size n (.slice base n cap)).run P w' = .ok olds.toArray w')
    (hf : ∀ w' : World, w'.heap = w.heap → (Builtin.firstCells i.size m x).run P w' = .ok news.toArray w')
    (hg : cap < n + m) (h63 : n + m ≤ 9223372036854775807) (hfit : (n + m) * i.bytes ≤ 140737488355328) :
    (Builtin.append_ #[t, t] ty #[.slice base n cap, x]).run P w =
      .ok (.slice (some ⟨w.heap.size, 0, none⟩) (n + m) (grownCap w (n + m) cap e))
        (w.drew.alloc (.cells (olds.toArray ++ news.toArray ++ Builtin.zeroCells z.cells (grownCap w (n + m) cap e - (n + m))) e)) := by
  have hn : ¬ (n + m ≤ cap) := by omega
  have h63' : ¬ (9223372036854775807 < ((n : Int) + (m : Int))) := by omega
  have h48 := growslice_fits (need := n + m) (old := cap) (bytes := i.bytes) hg hfit
  have h48' : ¬ (281474976710656 < Builtin.nextslicecap (n + m) cap * i.bytes) := by omega
  have e1 := ho w.drew rfl
  have e2 := hf w.drew rfl
  simp [Builtin.append_, run_underlying ht, sizeOf, typeInfo, zeroValue, hi, hz, hx, hn, h63', h48', Question.forced, e1, e2, newRow, grownCap]
  congr 2
  apply Array.ext'
  simp [List.append_assoc]

/-- append: the base is nil, or the whole of a row. 'rg', 'k': where a nil base's row is laid. -/
def vAppend (P : Program) (rg k : Nat) (T : TypeId) (b x : AV) (S : St) (K : AV → St → Prop) : Prop :=
  match td P T with
  | .slice e => match view S x with
    | some xs => (tyok P e = true ∧ (xs.all fun x => allOne x.cells && (x.cells.length == (zav P e).cells.length)) = true) ∧ (match b with
      | .nil => xs.length * bts P e ≤ 140737488355328 ∧ xs.length ≤ 9223372036854775807 ∧ ∀ g, K (.sl (zav P e).cells.length rg k g 0 xs.length) (S.set rg k (.arr (zav P e).cells.length xs) g)
      | .sl kk r k' g off n => match S r k' with
        | some (.arr kk' es, g') => (g' = g ∧ off = 0 ∧ kk' = kk ∧ kk = (zav P e).cells.length ∧ n = es.length) ∧ ((es.length + xs.length) * bts P e ≤ 140737488355328 ∧ es.length + xs.length ≤ 9223372036854775807) ∧
            ∀ g2, K (.sl kk r k' g2 0 (es.length + xs.length)) (S.set r k' (.arr kk (es ++ xs)) g2)
        | _ => False
      | _ => False)
    | none => False
  | _ => False

theorem toList_two {α : Type} (l m : List α) (z : Array α) : (l.toArray ++ m.toArray ++ z).toList = l ++ m ++ z.toList := by simp

theorem l_append_core {T ty e : TypeId} {base : Value} {kk n : Nat} {es xs : List AV} {x : Value} {a : AV} (hr : Rel G S w) (hx : VR G a x) (hxs : view S a = some xs)
    (hd : P.underlying T = some (.slice e)) (hty : tyok P e = true) (hkk : kk = (zav P e).cells.length) (hall : ∀ y ∈ xs, allOne y.cells = true ∧ y.cells.length = kk) (r k : Nat)
    (hn : n = es.length) (hek : ∀ y ∈ es, y.cells.length = kk)
    (hbytes : (es.length + xs.length) * bts P e ≤ 140737488355328) (h63 : es.length + xs.length ≤ 9223372036854775807)
    (hbase : (es = [] ∧ ∃ ao, base = .slice ao 0 0) ∨ ∃ g L, S r k = some (.arr kk es, g) ∧ G.loc r k g = some L ∧ 0 < L.cap ∧ base = .slice (some ⟨L.block, 0, none⟩) n L.cap) :
    ∃ v w' g G', (Builtin.append_ #[T, T] ty #[base, x]).run P w = .ok v w' ∧ G.le G' ∧ Rel G' (S.set r k (.arr kk (es ++ xs)) g) w' ∧ VR G' (.sl kk r k g 0 (es.length + xs.length)) v := by
  obtain ⟨i, z, hi, hz, _⟩ := tyok_zero hty
  obtain ⟨b1, b2, b3, _⟩ := one_at (P := P) (G := G) hty hi hz
  have hks : kk = i.size := by omega
  subst hn
  have hby : (es.length + xs.length) * i.bytes ≤ 140737488355328 := by simpa [bts, hi] using hbytes
  obtain ⟨ao, cap, news, rfl, hcl, hcm, hnl, hf, hV⟩ := view_cells (P := P) hr hx hxs (fun y hy => (hall y hy).2) (by omega)
  have hlen : (Builtin.lenOf (.slice ao xs.length cap)).run P w = .ok xs.length w := rfl
  obtain ⟨g, hg⟩ := hr.fresh r k
  have hones : ∀ u ∈ news, u.oneCell' = true := by
    intro u hu
    obtain ⟨p, hp, rfl⟩ := List.mem_iff_getElem.1 hu
    have hpk : p < xs.length * kk := by omega
    have hpd : p / kk < xs.length := Nat.div_lt_of_lt_mul (by rw [Nat.mul_comm]; exact hpk)
    have hdm : p / kk * kk + p % kk = p := by rw [Nat.mul_comm]; exact Nat.div_add_mod p kk
    have hal := hall xs[p / kk] (List.getElem_mem hpd)
    have hjm : p % kk < xs[p / kk].cells.length := by rw [hal.2]; exact Nat.mod_lt _ (by omega)
    obtain ⟨y, y1, y2⟩ := hV _ hpd _ hjm
    rw [hdm, List.getElem?_eq_getElem hp] at y1
    rw [Option.some.inj y1]
    exact y2.oneCell (List.all_eq_true.1 hal.1 _ (List.getElem_mem hjm))
  -- the elements of the joined list
  have happ : ∀ (G' : Ghost), G.le G' → ∀ (row : Array Value), (∀ p (h : p < es.length) j (h' : j < es[p].cells.length), ∃ x, row[p * kk + j]? = some x ∧ VR G es[p].cells[j] x) →
      (∀ q, q < xs.length * kk → row[es.length * kk + q]? = news[q]?) →
      ∀ p (h : p < (es ++ xs).length) j (h' : j < (es ++ xs)[p].cells.length), ∃ x, row[p * kk + j]? = some x ∧ VR G' (es ++ xs)[p].cells[j] x := by
    intro G' hle row h1 h2 p hp j hj
    simp only [List.length_append] at hp
    by_cases hpe : p < es.length
    · have e : (es ++ xs)[p] = es[p] := List.getElem_append_left hpe
      simp only [e] at hj ⊢
      obtain ⟨y, y1, y2⟩ := h1 p hpe j hj
      exact ⟨y, y1, y2.mono hle⟩
    · have e : (es ++ xs)[p] = xs[p - es.length] := List.getElem_append_right (by omega)
      simp only [e] at hj ⊢
      obtain ⟨y, y1, y2⟩ := hV (p - es.length) (by omega) j hj
      have hjk : j < kk := by rw [← (hall _ (List.getElem_mem (show p - es.length < xs.length by omega))).2]; exact hj
      have e2 : p * kk + j = es.length * kk + ((p - es.length) * kk + j) := by rw [← Nat.add_assoc, ← Nat.add_mul]; congr 2; omega
      refine ⟨y, ?_, y2.mono hle⟩
      rw [e2, h2 _ (flat_lt (by omega) hjk), y1]
  have hcells : ∀ p (h : p < (es ++ xs).length), (es ++ xs)[p].cells.length = kk := by
    intro p hp
    rcases List.mem_append.1 (List.getElem_mem hp) with h | h
    · exact hek _ h
    · exact (hall _ h).2
  -- into a new row
  have grow : ∀ (base : Option Addr) (c : Nat) (olds : List Value), olds.length = es.length * kk → (∀ w' : World, w'.heap = w.heap → (Builtin.firstCells kk es.length (.slice base es.length c)).run P w' = .ok olds.toArray w') →
      (∀ p (h : p < es.length) j (h' : j < es[p].cells.length), ∃ x, olds[p * kk + j]? = some x ∧ VR G es[p].cells[j] x) → c < es.length + xs.length →
      ∃ v w' G', (Builtin.append_ #[T, T] ty #[.slice base es.length c, .slice ao xs.length cap]).run P w = .ok v w' ∧ G.le G' ∧ Rel G' (S.set r k (.arr kk (es ++ xs)) g) w' ∧ VR G' (.sl kk r k g 0 (es.length + xs.length)) v := by
    intro base c olds ho1 ho2 ho3 hlt
    have hrun := run_append_new (P := P) (w := w) (ty := ty) hd hi hz (base := base) (cap := c) hlen (by rw [← hks]; exact ho2) (by rw [← hks]; exact hf) hlt h63 hby
    have hge := grownCap_ge w (es.length + xs.length) c e
    have hcm' := grownCap_le_maxLen w (es.length + xs.length) c e (by simp only [maxLen]; omega)
    obtain ⟨G', q1, q2, _, q4⟩ := hr.put (grownBy_drew w (.cells (olds.toArray ++ news.toArray ++ Builtin.zeroCells z.cells (grownCap w (es.length + xs.length) c e - (es.length + xs.length))) e)) r k g (.arr kk (es ++ xs))
      ⟨w.heap.size, grownCap w (es.length + xs.length) c e, kk, e⟩ (fun b hb => by cases hb) (fun _ => .inl (Nat.le_refl _)) (.inl hg)
      (fun G' hle => arr_at (L := ⟨w.heap.size, grownCap w (es.length + xs.length) c e, kk, e⟩) (row := olds.toArray ++ news.toArray ++ Builtin.zeroCells z.cells (grownCap w (es.length + xs.length) c e - (es.length + xs.length)))
        (heap_alloc_new w.drew _) (by simp only; omega)
        (by
          simp only [Array.size_append, List.size_toArray, size_zeroCells, ho1, hnl, b2, ← hks, ← Nat.add_mul]
          congr 1; omega) (by simpa using hge) hcm' hcells
        (happ G' hle _ (fun p h j h' => by
            obtain ⟨y, y1, y2⟩ := ho3 p h j h'
            refine ⟨y, ?_, y2⟩
            have hlt : p * kk + j < olds.length := by
              by_cases hc : p * kk + j < olds.length
              · exact hc
              · rw [List.getElem?_eq_none (by omega)] at y1; cases y1
            rw [Array.append_assoc, Array.getElem?_append_left (by simpa using hlt)]
            simpa using y1)
          (fun q hq => by
            rw [Array.append_assoc, Array.getElem?_append_right (by simp only [List.size_toArray]; omega), Array.getElem?_append_left (by simp only [List.size_toArray]; omega)]
            simp only [List.size_toArray, ho1, Nat.add_sub_cancel_left]
            simp)))
    refine ⟨_, _, G', hrun, q1, q4, ?_⟩
    have := VR.sl (G := G') kk r k g 0 (es.length + xs.length) (some ⟨w.heap.size, 0, none⟩) _ q2 rfl (by simpa using hge) hcm' (fun _ => by simp)
    simpa using this
  rcases hbase with ⟨rfl, ao', rfl⟩ | ⟨g0, L, hS, hL, hc0, rfl⟩
  · by_cases hx0 : xs.length = 0
    · have hn0 : news = [] := List.eq_nil_of_length_eq_zero (by rw [hnl, hx0]; simp)
      have hx0' : xs = [] := List.eq_nil_of_length_eq_zero hx0
      subst hx0'
      have hrun := run_append_none (P := P) (w := w) (ty := ty) hd hi (base := ao') (n := 0) (cap := 0) hlen (by rw [← hks]; exact hf w rfl) hn0 (by simp)
      obtain ⟨G', q1, q2, _, q4⟩ := hr.put (grownRefl w) r k g (.arr kk []) ⟨0, 0, kk, e⟩ (fun b hb => by cases hb) (fun h => by simp at h) (.inl hg)
        (fun G' hle => ⟨by omega, rfl, by simp, by simp [maxLen], fun i h => by simp at h, fun h => by simp at h⟩)
      refine ⟨_, _, g, G', hrun, q1, q4, ?_⟩
      have := VR.sl (G := G') kk r k g 0 0 ao' _ q2 rfl (by simp) (by simp [maxLen]) (fun h => by simp at h)
      simpa using this
    · obtain ⟨v, w', G', h1, h2, h3, h4⟩ := grow ao' 0 [] (by simp) (fun w' _ => by cases ao' <;> simp [Builtin.firstCells, loadCells, loadCellsFrom]) (fun p h => by simp at h) (by simp; omega)
      exact ⟨v, w', g, G', h1, h2, h3, h4⟩
  · obtain ⟨L', hL', hobj, hown⟩ := hr.obj _ _ _ _ hS
    obtain rfl : L' = L := by rw [hL] at hL'; exact (Option.some.inj hL').symm
    obtain ⟨hk0, hLk, hecap, hLm, hecl, hrows⟩ := hobj
    obtain ⟨row, hrow, hrs, hel⟩ := hrows hc0
    by_cases hroom : es.length + xs.length ≤ L'.cap
    · have hfit : es.length * i.size + news.length ≤ row.size := by
        rw [hnl, hrs, ← hks, ← Nat.add_mul]; exact Nat.mul_le_mul_right _ hroom
      have hrun := run_append_fits (P := P) (w := w) (ty := ty) hd hi (n := es.length) hlen (by rw [← hks]; exact hf w rfl) hrow hones hroom hfit
      rw [← hks] at hfit hrun
      have hset := setRow_heap w L'.block row (row.toList.take (es.length * kk) ++ news ++ row.toList.drop (es.length * kk + news.length)).toArray L'.t (0, 0) hrow
      have hlt : (row.toList.take (es.length * kk)).length = es.length * kk := by simp; omega
      obtain ⟨G', q1, q2, _, q4⟩ := hr.put (w' := w.setRow L'.block _) (row := some L'.block) ⟨rfl, rfl, rfl, by simp, fun b _ hb => setRow_other w L'.block b _ (fun e => hb (by rw [e]))⟩ r k g
        (.arr kk (es ++ xs)) L' (fun b hb => by injection hb with hb; subst hb; exact ⟨_, _, _, hS, hL, hc0, rfl⟩) (fun hc => .inr ⟨_, _, _, hS, hL, hc, rfl⟩) (.inl hg)
        (fun G' hle => by
          have hh := arr_at (G' := G') (L := L') (es := es ++ xs) (row := (row.toList.take (es.length * kk) ++ news ++ row.toList.drop (es.length * kk + news.length)).toArray) hset (by omega)
            (by
              have hrs' : row.size = L'.cap * L'.k := by rw [hLk]; exact hrs
              simp only [List.size_toArray, List.length_append, List.length_take, List.length_drop, Array.length_toList]
              rw [← hrs']
              omega) (by simpa using hroom) hLm (fun p h => by rw [hcells p h, hLk])
            (by
              rw [hLk]
              refine happ G' hle _ (fun p h j h' => ?_) (fun q hq => ?_)
              · obtain ⟨y, y1, y2⟩ := hel p h j h'
                refine ⟨y, ?_, y2⟩
                have hjk : j < kk := by rw [← hek _ (List.getElem_mem h)]; exact h'
                have hlt' : p * kk + j < es.length * kk := flat_lt h hjk
                simp only [List.getElem?_toArray]
                rw [List.append_assoc, List.getElem?_append_left (by omega), List.getElem?_take, if_pos hlt']
                simpa using y1
              · simp only [List.getElem?_toArray]
                rw [List.append_assoc, List.getElem?_append_right (by omega), hlt, List.getElem?_append_left (by omega)]
                congr 1; omega)
          rw [hLk] at hh
          exact hh)
      refine ⟨_, _, g, G', hrun, q1, q4, ?_⟩
      have := VR.sl (G := G') kk r k g 0 (es.length + xs.length) (some ⟨L'.block, 0, none⟩) _ q2 hLk (by simpa using hroom) hLm (fun _ => by simp)
      simpa using this
    · obtain ⟨v, w', G', h1, h2, h3, h4⟩ := grow (some ⟨L'.block, 0, none⟩) L'.cap (row.toList.take (es.length * kk))
        (by simp only [List.length_take, Array.length_toList, hrs]; have := Nat.mul_le_mul_right kk hecap; omega)
        (fun w' hw => by
          refine run_firstCells_some (P := P) w' kk es.length _ es.length L'.cap _ (by simp only [List.length_take, Array.length_toList, hrs]; have := Nat.mul_le_mul_right kk hecap; omega) (fun p q hq => ?_)
          rw [List.getElem?_take] at hq
          split at hq
          · rw [addr_add, Nat.zero_add]
            have : w'.cell? ⟨L'.block, p, none⟩ = w.cell? ⟨L'.block, p, none⟩ := by simp [World.cell?, hw]
            rw [this, cell_of_row w _ _ row _ _ hrow]
            simpa using hq
          · cases hq)
        (fun p h j h' => by
          obtain ⟨y, y1, y2⟩ := hel p h j h'
          have hjk : j < kk := by rw [← hek _ (List.getElem_mem h)]; exact h'
          refine ⟨y, ?_, y2⟩
          rw [List.getElem?_take, if_pos (flat_lt h hjk)]
          simpa using y1) (by omega)
      exact ⟨v, w', g, G', h1, h2, h3, h4⟩

theorem sop_append {n : Nat} {o : Oper} {t : Env} {T : TypeId} {b x : Operand} {K : AV → St → Prop} (ho : o.op = .call { callee := .builtin .append, args := #[b, x], argTypes := #[T, T] }) (rg k : Nat)
    (h : vAppend P rg k T (ev t b) (ev t x) S K) : SOp P n o t S K := by
  refine sop_value (fun ρ => Builtin.append_ #[T, T] o.type #[ρ b, ρ x]) (fun ρ => by simp [execOp, ho, resolve, invoke, builtin]) fun G ρ w hr he => ?_
  unfold vAppend at h
  split at h
  · rename_i e hd
    split at h
    · rename_i xs hxs
      obtain ⟨⟨hty, hall⟩, h⟩ := h
      have hall' : ∀ y ∈ xs, allOne y.cells = true ∧ y.cells.length = (zav P e).cells.length := fun y hy => by
        have := List.all_eq_true.1 hall y hy
        simpa using this
      have hb := he b
      generalize ρ b = vb at hb
      generalize ev t b = ab at hb h
      cases hb with
      | nil =>
        obtain ⟨h1, h2, hK⟩ := h
        obtain ⟨v, w', g, G', q1, q2, q3, q4⟩ := l_append_core (P := P) (ty := o.type) (base := .slice none 0 0) (n := 0) (es := []) hr (he x) hxs (td_slice hd) hty rfl hall' rg k rfl (fun y hy => by cases hy)
          (by simpa using h1) (by simpa using h2) (.inl ⟨rfl, _, rfl⟩)
        simp only [List.nil_append, List.length_nil, Nat.zero_add] at q3 q4
        exact ⟨v, w', _, _, G', q1, hK g, q2, q3, q4⟩
      | sl kk r k' g off n a L hL hk hc hm ha =>
        simp only at h
        split at h
        · rename_i kk' es g' hS
          obtain ⟨⟨rfl, rfl, rfl, hkk, rfl⟩, ⟨h1, h2⟩, hK⟩ := h
          obtain ⟨L', hL', hobj, _⟩ := hr.obj _ _ _ _ hS
          obtain rfl : L' = L := by rw [hL] at hL'; exact (Option.some.inj hL').symm
          obtain ⟨v, w', g2, G', q1, q2, q3, q4⟩ := l_append_core (P := P) (ty := o.type) (n := es.length) (es := es) hr (he x) hxs (td_slice hd) hty hkk (fun y hy => by rw [hkk]; exact hall' y hy) r k' rfl
            (fun y hy => by
              obtain ⟨p, hp, rfl⟩ := List.mem_iff_getElem.1 hy
              exact hobj.2.2.2.2.1 p hp) h1 h2
            (base := .slice a es.length (L'.cap - 0))
            (by
              by_cases hc0 : 0 < L'.cap
              · refine .inr ⟨_, _, hS, hL, hc0, ?_⟩
                rw [ha hc0]; simp
              · have : es.length = 0 := by omega
                refine .inl ⟨List.eq_nil_of_length_eq_zero this, a, ?_⟩
                rw [this]
                congr 1; omega)
          exact ⟨v, w', _, _, G', q1, hK g2, q2, q3, q4⟩
        · exact h.elim
      | _ => exact h.elim
    · exact h.elim
  · exact h.elim
end
end Go.Gg
