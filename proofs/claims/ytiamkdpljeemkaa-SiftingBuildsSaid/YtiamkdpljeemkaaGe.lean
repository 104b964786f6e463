/- slices.Insert at integers: the kit's four roads as one contract. Conditions: none. -/
import Derived.Test.YtiamkdpljeemkaaGd
import Derived.Shelf.Spec.SlicesInsertGrow
/- slices.Insert at integers: the kit's four roads as one contract. Conditions: none. -/
namespace Go.Gg
open Go.RowKit (Below)
open Go.Shelf Go.Proofs
def splice (row : Array Value) (o : Nat) (vs : List Value) : Array Value := (row.toList.take o ++ vs ++ row.toList.drop (o + vs.length)).toArray
theorem splice_size {row : Array Value} {o : Nat} {vs : List Value} (h : o + vs.length ≤ row.size) : (splice row o vs).size = row.size := by
  simp only [splice, List.size_toArray, List.length_append, List.length_take, List.length_drop, Array.length_toList]
  omega
theorem splice_at {row : Array Value} {o : Nat} {vs : List Value} (h : o + vs.length ≤ row.size) (p : Nat) : (splice row o vs)[p]? = if o ≤ p ∧ p < o + vs.length then vs[p - o]? else row[p]? := by
  have hlt : (row.toList.take o).length = o := by simp; omega
  simp only [splice, List.getElem?_toArray]
  split
  · rename_i hc
    rw [List.append_assoc, List.getElem?_append_right (by omega), hlt, List.getElem?_append_left (by omega)]
  · rename_i hc
    by_cases hlt' : p < o
    · rw [List.append_assoc, List.getElem?_append_left (by omega), List.getElem?_take, if_pos hlt']
      simp
    · rw [List.append_assoc, List.getElem?_append_right (by omega), hlt, List.getElem?_append_right (by omega), List.getElem?_drop]
      rw [show o + vs.length + (p - o - vs.length) = p from by omega]
      simp
section
variable {P : Program} {w : World}
theorem row_cell {b j : Nat} {row : Array Value} {t : TypeId} (h : w.heap[b]? = some (.cells row t (0, 0))) : w.cell? ⟨b, j, none⟩ = row[j]? := cell_of_row w b j row t _ h
theorem row_frozen {b j : Nat} {row : Array Value} {t : TypeId} (h : w.heap[b]? = some (.cells row t (0, 0))) : w.frozen? ⟨b, j, none⟩ = false := by simp [World.frozen?, h]
theorem row_shape {b : Nat} {row : Array Value} {t : TypeId} (h : w.heap[b]? = some (.cells row t (0, 0))) : w.shape? b = some (t, row.size) := by simp [World.shape?, h]
theorem setCells_row (P : Program) {b o : Nat} {row : Array Value} {t : TypeId} {vs : List Value} (h : w.heap[b]? = some (.cells row t (0, 0))) (hf : o + vs.length ≤ row.size) (h1 : ∀ v ∈ vs, v.oneCell' = true) : w.setCells b o vs = w.setRow b (splice row o vs) := by
  have a := run_storeCells_at P b o t vs 0 row w h (by omega) h1
  have c := run_storeCells_cells (P := P) b o vs 0 w (fun j hj => by rw [row_cell h, Array.getElem?_eq_getElem (by omega)]; rfl) (fun j hj => row_frozen h) h1
  rw [a] at c
  simp only [Nat.add_zero] at c
  injection c with _ c
  exact c.symm
theorem row_put {b : Nat} {row row' : Array Value} {t : TypeId} (h : w.heap[b]? = some (.cells row t (0, 0))) : (w.setRow b row').heap[b]? = some (.cells row' t (0, 0)) := setRow_heap w b row row' t (0, 0) h
/-- A row of integers in its block. -/
theorem ints_at {G : Ghost} {L : Loc} {s : List Int} (h : ObjAt G w L (.arr 1 (s.map (AV.int .i64)))) (hc : 0 < L.cap) : ∃ row : Array Value, w.heap[L.block]? = some (.cells row L.t (0, 0)) ∧ row.size = L.cap ∧ ∀ (j : Nat) (v : Value), (s.map (Value.int .i64))[j]? = some v → row[j]? = some v := by
  obtain ⟨h1, h2, h3, h4, h5, h6⟩ := h
  obtain ⟨row, a, b, c⟩ := h6 hc
  refine ⟨row, a, by omega, fun j v hv => ?_⟩
  rw [List.getElem?_map] at hv
  cases hj : s[j]? with
  | none => rw [hj] at hv; cases hv
  | some z =>
    rw [hj] at hv
    obtain ⟨hl, he⟩ := List.getElem?_eq_some_iff.1 hj
    obtain ⟨x, x1, x2⟩ := c j (by simpa using hl) 0 (by simp [AV.cells])
    simp only [List.getElem_map, he, AV.cells, List.getElem_cons_zero] at x2
    cases x2
    simp only [Nat.mul_one, Nat.add_zero] at x1
    rw [x1]
    exact hv
theorem one_ints (s : List Int) : ∀ v ∈ s.map (Value.int .i64), v.oneCell' = true := fun v hv => by
  obtain ⟨z, _, rfl⟩ := List.mem_map.1 hv
  rfl
theorem ints_obj {G : Ghost} {L : Loc} {s : List Int} {row : Array Value} (hrow : w.heap[L.block]? = some (.cells row L.t (0, 0))) (hk : L.k = 1) (hs : row.size = L.cap) (hl : s.length ≤ L.cap) (hm : L.cap ≤ maxLen)
    (h : ∀ (j : Nat) (v : Value), (s.map (Value.int .i64))[j]? = some v → row[j]? = some v) : ObjAt G w L (.arr 1 (s.map (AV.int .i64))) := by
  refine ⟨by omega, hk, by simpa using hl, hm, fun i hi => by simp [AV.cells], fun _ => ⟨row, hrow, by omega, fun i hi j hj => ?_⟩⟩
  simp only [List.getElem_map, AV.cells, List.length_singleton] at hj ⊢
  obtain rfl : j = 0 := by omega
  have hi' : i < s.length := by simpa using hi
  refine ⟨.int .i64 s[i], ?_, ?_⟩
  · simp only [Nat.mul_one, Nat.add_zero]
    exact h i _ (by simp [hi'])
  · simp only [List.getElem_cons_zero]
    exact .int _ _
theorem grown_row {b : Nat} {row' : Array Value} : w.grownBy (w.setRow b row') (some b) := ⟨rfl, rfl, rfl, by simp, fun c _ hb => setRow_other w b c _ (fun e => hb (by rw [e]))⟩
end
theorem insert_ctr {P : Program} {ρ : Ren} (L : Lays2.n21 P ρ) (hcall : callable P (ρ.f 21) = true) {s v : List Int} {i : Int} {q0 k0 g0 q1 k1 g1 : Nat} {S : St} {R : AV → St → Prop} (hne : ¬ (q0 = q1 ∧ k0 = k1)) (hi : 0 ≤ i ∧ i ≤ s.length) (hv : 0 < v.length)
    (hb : (s.length + v.length) * 8 ≤ 140737488355328)
    (hQ : ∀ g', R (.sl 1 q0 k0 g' 0 (ins' s i v).length) (stX S [(q0, k0, .arr 1 ((ins' s i v).map (AV.int .i64)), g'), (q1, k1, .arr 1 (v.map (AV.int .i64)), g1)])) :
    Ctr P (ρ.f 21) [.sl 1 q0 k0 g0 0 s.length, .int .i64 i, .sl 1 q1 k1 g1 0 v.length] (stX S [(q0, k0, .arr 1 (s.map (AV.int .i64)), g0), (q1, k1, .arr 1 (v.map (AV.int .i64)), g1)]) R := by
  refine ⟨hcall, fun G w vs hr hvs => ?_⟩
  obtain ⟨hsz, hvr⟩ := hvs
  have e0 := hvr 0 (by simp) (by rw [hsz]; simp)
  have e1 := hvr 1 (by simp) (by rw [hsz]; simp)
  have e2 := hvr 2 (by simp) (by rw [hsz]; simp)
  obtain ⟨v0, v1, v2, rfl⟩ : ∃ a b c, vs = #[a, b, c] := by
    rcases vs with ⟨l⟩
    match l, hsz with
    | [a, b, c], _ => exact ⟨a, b, c, rfl⟩
  simp only [List.getElem_cons_zero, List.getElem_cons_succ, List.getElem_toArray] at e0 e1 e2
  have hS0 : stX S [(q0, k0, .arr 1 (s.map (AV.int .i64)), g0), (q1, k1, .arr 1 (v.map (AV.int .i64)), g1)] q0 k0 = some (.arr 1 (s.map (AV.int .i64)), g0) := by simp [stX, St.set]
  have hS1 : stX S [(q0, k0, .arr 1 (s.map (AV.int .i64)), g0), (q1, k1, .arr 1 (v.map (AV.int .i64)), g1)] q1 k1 = some (.arr 1 (v.map (AV.int .i64)), g1) := by
    simp only [stX, St.set]
    rw [if_neg (fun hc => hne ⟨hc.1.symm, hc.2.symm⟩)]
    simp
  obtain ⟨L0, hL0, ob0, _⟩ := hr.obj _ _ _ _ hS0
  obtain ⟨L1, hL1, ob1, _⟩ := hr.obj _ _ _ _ hS1
  cases e1
  cases e0 with
  | sl _ _ _ _ _ _ a0 L0' p1 p2 p3 p4 p5 =>
  obtain rfl : L0' = L0 := by rw [hL0] at p1; exact (Option.some.inj p1).symm
  cases e2 with
  | sl _ _ _ _ _ _ a1 L1' r1 r2 r3 r4 r5 =>
  obtain rfl : L1' = L1 := by rw [hL1] at r1; exact (Option.some.inj r1).symm
  obtain ⟨i, rfl⟩ : ∃ n : Nat, i = n := ⟨i.toNat, by omega⟩
  have hin : i ≤ s.length := by omega
  have hc1 : 0 < L1'.cap := by omega
  obtain ⟨row1, w1, z1, c1⟩ := ints_at ob1 hc1
  have hk0 : L0'.k = 1 := p2
  have hk1 : L1'.k = 1 := r2
  have ha1 := r5 hc1
  rw [Nat.zero_mul] at ha1
  subst ha1
  have hvl : (v.map (Value.int .i64)).length = v.length := by simp
  have hsl : (s.map (Value.int .i64)).length = s.length := by simp
  have hins : ins' s (i : Int) v = s.take i ++ v ++ s.drop i := by simp [ins']
  have hil : (ins' s (i : Int) v).length = s.length + v.length := by rw [hins]; simp; omega
  have hiv : (ins' s (i : Int) v).map (Value.int .i64) = (s.map (Value.int .i64)).take i ++ v.map (Value.int .i64) ++ (s.map (Value.int .i64)).drop i := by rw [hins]; simp
  simp only [Nat.sub_zero]
  have hset : ∀ g', (stX S [(q0, k0, .arr 1 (s.map (AV.int .i64)), g0), (q1, k1, .arr 1 (v.map (AV.int .i64)), g1)]).set q0 k0 (.arr 1 ((ins' s i v).map (AV.int .i64))) g' = stX S [(q0, k0, .arr 1 ((ins' s i v).map (AV.int .i64)), g'), (q1, k1, .arr 1 (v.map (AV.int .i64)), g1)] := fun g' => by
    simp only [stX]
    exact set_set
  have hm : s.length + v.length ≤ maxLen := by simp only [maxLen]; omega
  -- behind a new row
  have fresh : ∀ (w' : World) (row : Array Value) (c : Nat), c ≤ maxLen → s.length + v.length ≤ c → w.grownBy w' none → w'.heap[w.heap.size]? = some (.cells row (ρ.t 3) (0, 0)) → row.size = c →
      (∀ (j : Nat) (x : Value), ((ins' s i v).map (Value.int .i64))[j]? = some x → row[j]? = some x) →
      ∃ v' av S' G', Ending.returned (.slice (some ⟨w.heap.size, 0, none⟩) (s.length + v.length) c) = .returned v' ∧ R av S' ∧ G.le G' ∧ Rel G' S' w' ∧ VR G' av v' := by
    intro w' row c hcm hcl hg hrow hrs hj
    obtain ⟨g, hgf⟩ := hr.fresh q0 k0
    obtain ⟨G', q1', q2', _, q4'⟩ := hr.put hg q0 k0 g (.arr 1 ((ins' s i v).map (AV.int .i64))) ⟨w.heap.size, c, 1, ρ.t 3⟩ (fun b hb => by cases hb) (fun _ => .inl (Nat.le_refl _)) (.inl hgf)
      (fun G' hle => ints_obj (L := ⟨w.heap.size, c, 1, ρ.t 3⟩) hrow rfl hrs (by rw [hil]; exact hcl) hcm hj)
    rw [hset] at q4'
    refine ⟨_, _, _, G', rfl, hQ g, q1', q4', ?_⟩
    have := VR.sl (G := G') 1 q0 k0 g 0 (s.length + v.length) (some ⟨w.heap.size, 0, none⟩) _ q2' rfl (by simpa using hcl) hcm (fun _ => by simp)
    rw [hil]
    simpa using this
  -- in place
  have place : ∀ (w' : World) (row row' : Array Value), 0 < L0'.cap → s.length + v.length ≤ L0'.cap → w.heap[L0'.block]? = some (.cells row L0'.t (0, 0)) → w.grownBy w' (some L0'.block) → w'.heap[L0'.block]? = some (.cells row' L0'.t (0, 0)) → row'.size = L0'.cap →
      (∀ (j : Nat) (x : Value), ((ins' s i v).map (Value.int .i64))[j]? = some x → row'[j]? = some x) →
      ∃ v' av S' G', Ending.returned (.slice (some ⟨L0'.block, 0, none⟩) (s.length + v.length) L0'.cap) = .returned v' ∧ R av S' ∧ G.le G' ∧ Rel G' S' w' ∧ VR G' av v' := by
    intro w' row row' hc0 hcl hrow0 hg hrow hrs hj
    obtain ⟨G', q1', q2', _, q4'⟩ := hr.put hg q0 k0 g0 (.arr 1 ((ins' s i v).map (AV.int .i64))) L0' (fun b hb => by injection hb with hb; subst hb; exact ⟨_, _, _, hS0, hL0, hc0, rfl⟩) (fun hc => .inr ⟨_, _, _, hS0, hL0, hc, rfl⟩) (.inr hL0)
      (fun G' hle => ints_obj hrow hk0 hrs (by rw [hil]; exact hcl) p4 hj)
    rw [hset] at q4'
    refine ⟨_, _, _, G', rfl, hQ g0, q1', q4', ?_⟩
    have := VR.sl (G := G') 1 q0 k0 g0 0 (s.length + v.length) (some ⟨L0'.block, 0, none⟩) _ q2' hk0 (by simpa using hcl) p4 (fun _ => by simp)
    rw [hil]
    simpa using this
  by_cases hend : i = s.length
  · subst hend
    have hi0 : ins' s (s.length : Int) v = s ++ v := by rw [hins]; simp
    by_cases hroom : s.length + v.length ≤ L0'.cap
    · have hc0 : 0 < L0'.cap := by omega
      obtain ⟨row0, w0, z0, c0⟩ := ints_at ob0 hc0
      have ha0 := p5 hc0
      rw [Nat.zero_mul] at ha0
      subst ha0
      have hf : s.length + (v.map (Value.int .i64)).length ≤ row0.size := by rw [hvl, z0]; exact hroom
      refine (Any2.slices_Insert_int_end_room L L0'.block 0 s.length L0'.cap L1'.block 0 v.length L1'.cap (v.map (Value.int .i64)) w hv hroom (by have := p4; simp only [maxLen] at this; omega) hvl
        (fun j hj => by rw [row_cell w0, Array.getElem?_eq_getElem (by omega)]; rfl) (fun j hj => row_frozen w0) (fun j x hx => by rw [row_cell w1]; rw [Nat.zero_add]; exact c1 j x hx) (one_ints v)).mono ?_
      rintro e w' ⟨rfl, rfl⟩
      rw [Nat.zero_add, setCells_row P w0 hf (one_ints v)]
      refine place _ row0 (splice row0 s.length (v.map (Value.int .i64))) hc0 hroom w0 grown_row (row_put w0) (by rw [splice_size hf, z0]) (fun j x hx => ?_)
      rw [splice_at hf]
      rw [hi0, List.map_append, List.getElem?_append] at hx
      rw [hsl] at hx
      split at hx
      · rw [if_neg (by omega)]; exact c0 j x hx
      · have := (List.getElem?_eq_some_iff.1 hx).1
        rw [if_pos (by omega)]; exact hx
    · have hcs : ∀ a, a0 = some a → ∀ (j : Nat) (x : Value), (s.map (Value.int .i64))[j]? = some x → w.cell? (a.add j) = some x := fun a ha j x hx => by
        have hjl : j < s.length := by have := (List.getElem?_eq_some_iff.1 hx).1; omega
        have hc0 : 0 < L0'.cap := by omega
        obtain ⟨row0, w0, z0, c0⟩ := ints_at ob0 hc0
        have h5 := p5 hc0
        rw [ha, Nat.zero_mul] at h5
        injection h5 with h5
        subst h5
        rw [addr_add, Nat.zero_add, row_cell w0]
        exact c0 j x hx
      refine (Any2.slices_Insert_int_end_grow L a0 s.length L0'.cap L1'.block 0 v.length L1'.cap (s.map (Value.int .i64)) (v.map (Value.int .i64)) w hv (by omega) (by omega) hb hsl hvl (fun hn => by
          by_cases hc0 : 0 < L0'.cap
          · rw [p5 hc0] at hn; cases hn
          · omega) hcs (fun j x hx => by rw [row_cell w1]; rw [Nat.zero_add]; exact c1 j x hx) (one_ints v)).mono ?_
      rintro e w' ⟨rfl, rfl⟩
      refine fresh _ _ _ (grownCap_le_maxLen _ _ _ _ hm) (grownCap_ge _ _ _ _) (grownBy_drew w _) (heap_alloc_new w.drew _) ?_ (fun j x hx => ?_)
      · have := grownCap_ge w (s.length + v.length) L0'.cap (ρ.t 3)
        simp only [Array.size_append, List.size_toArray, List.length_append, hsl, hvl, size_zeroCells, Value.cells, List.size_toArray, List.length_singleton]
        omega
      · have hjl := (List.getElem?_eq_some_iff.1 hx).1
        rw [hi0, List.map_append] at hx hjl
        rw [Array.getElem?_append_left (by simpa using hjl)]
        simpa using hx
  · have hlt : i < s.length := by omega
    have hc0 : 0 < L0'.cap := by omega
    obtain ⟨row0, w0, z0, c0⟩ := ints_at ob0 hc0
    have ha0 := p5 hc0
    rw [Nat.zero_mul] at ha0
    subst ha0
    have hvb : L1'.block ≠ L0'.block := hr.inj _ _ _ _ _ _ _ _ _ _ hS1 hS0 hL1 hL0 hc1 hc0 (fun hc => hne ⟨hc.1.symm, hc.2.symm⟩)
    have hdl : ((s.map (Value.int .i64)).drop i).length = s.length - i := by simp
    have hod : ∀ x ∈ (s.map (Value.int .i64)).drop i, x.oneCell' = true := fun x hx => one_ints s x (List.mem_of_mem_drop hx)
    have content : ∀ row : Array Value, (∀ j : Nat, i ≤ j → j < i + v.length → row[j]? = (v.map (Value.int .i64))[j - i]?) → (∀ j : Nat, i + v.length ≤ j → j < s.length + v.length → row[j]? = (s.map (Value.int .i64))[j - v.length]?) → (∀ j : Nat, j < i → row[j]? = (s.map (Value.int .i64))[j]?) →
        ∀ (j : Nat) (x : Value), ((ins' s i v).map (Value.int .i64))[j]? = some x → row[j]? = some x := fun row h1 h2 h3 j x hx => by
      have hjl := (List.getElem?_eq_some_iff.1 hx).1
      simp only [List.length_map, hil] at hjl
      rw [hiv, List.append_assoc, List.getElem?_append, List.length_take, hsl, Nat.min_eq_left (by omega)] at hx
      split at hx
      · rw [h3 j (by omega)]; rw [List.getElem?_take, if_pos (by omega)] at hx; exact hx
      · rw [List.getElem?_append, hvl] at hx
        split at hx
        · rw [h1 j (by omega) (by omega)]; exact hx
        · rw [h2 j (by omega) (by omega)]
          rw [List.getElem?_drop] at hx
          rw [← hx]; congr 1; omega
    by_cases hroom : s.length + v.length ≤ L0'.cap
    · refine (Any2.slices_Insert_int_shift L L0'.block 0 s.length L0'.cap i L1'.block 0 v.length L1'.cap (s.map (Value.int .i64)) (v.map (Value.int .i64)) w hlt hv hroom (by have := p4; simp only [maxLen] at this; omega) hvb hsl hvl
        (fun j x hx => by rw [row_cell w0]; rw [Nat.zero_add]; exact c0 j x hx) (fun j hj => by rw [row_cell w0, Array.getElem?_eq_getElem (by omega)]; rfl) (fun j hj => row_frozen w0)
        (fun j x hx => by rw [row_cell w1]; rw [Nat.zero_add]; exact c1 j x hx) (one_ints s) (one_ints v) L1'.t L0'.t row1.size row0.size (row_shape w1) (row_shape w0) (by omega) (row_frozen w1) (row_frozen w1)).mono ?_
      rintro e w' ⟨rfl, rfl⟩
      have w0d : w.drew.heap[L0'.block]? = some (.cells row0 L0'.t (0, 0)) := w0
      have hf1 : (i + v.length) + ((s.map (Value.int .i64)).drop i).length ≤ row0.size := by rw [hdl, z0]; omega
      have hf2 : i + (v.map (Value.int .i64)).length ≤ (splice row0 (i + v.length) ((s.map (Value.int .i64)).drop i)).size := by rw [splice_size hf1, hvl, z0]; omega
      rw [Nat.zero_add, Nat.zero_add, setCells_row P w0d hf1 hod, setCells_row P (row_put w0d) hf2 (one_ints v)]
      refine place _ row0 _ hc0 hroom w0 ?_ (row_put (row_put w0d)) (by rw [splice_size hf2, splice_size hf1, z0]) (content _ (fun j h1 h2 => ?_) (fun j h1 h2 => ?_) (fun j h1 => ?_))
      · exact ⟨rfl, rfl, rfl, by simp, fun c _ hb => by rw [setRow_other _ _ _ _ (fun e => hb (by rw [e])), setRow_other _ _ _ _ (fun e => hb (by rw [e]))]; rfl⟩
      · rw [splice_at hf2, hvl, if_pos (by omega)]
      · rw [splice_at hf2, hvl, if_neg (by omega), splice_at hf1, hdl, if_pos (by omega), List.getElem?_drop]
        congr 1; omega
      · rw [splice_at hf2, hvl, if_neg (by omega), splice_at hf1, hdl, if_neg (by omega)]
        rw [List.getElem?_eq_getElem (by omega : j < (s.map (Value.int .i64)).length)]
        exact c0 j _ (List.getElem?_eq_getElem _)
    · refine (Any2.slices_Insert_int_grow L L0'.block 0 s.length L0'.cap i L1'.block 0 v.length L1'.cap (s.map (Value.int .i64)) (v.map (Value.int .i64)) w hlt hv (by omega) (by omega) hb hsl hvl
        (fun j x hx => by rw [row_cell w0]; rw [Nat.zero_add]; exact c0 j x hx) (fun j x hx => by rw [row_cell w1]; rw [Nat.zero_add]; exact c1 j x hx) (one_ints s) (one_ints v)).mono ?_
      rintro e w' ⟨rfl, rfl⟩
      have hge := grownCap_ge w (s.length + v.length) L0'.cap (ρ.t 3)
      generalize hcap : grownCap w (s.length + v.length) L0'.cap (ρ.t 3) = cap at hge ⊢
      have hcm : cap ≤ maxLen := hcap ▸ grownCap_le_maxLen _ _ _ _ hm
      generalize hROW : (((s.map (Value.int .i64)).take i).toArray ++ Builtin.zeroCells (Value.int IntKind.i64 0).cells (s.length + v.length - i) ++ Builtin.zeroCells (Value.int IntKind.i64 0).cells (cap - (s.length + v.length))) = row
      have hrs : row.size = cap := by
        rw [← hROW]
        simp only [Array.size_append, List.size_toArray, List.length_take, hsl, size_zeroCells, Value.cells, List.length_singleton]
        omega
      have wN : ((w.alloc (.cells row (ρ.t 3))).drew).heap[w.heap.size]? = some (.cells row (ρ.t 3) (0, 0)) := heap_alloc_new w _
      have hf1 : i + (v.map (Value.int .i64)).length ≤ row.size := by rw [hvl, hrs]; omega
      have hf2 : (i + v.length) + ((s.map (Value.int .i64)).drop i).length ≤ (splice row i (v.map (Value.int .i64))).size := by rw [splice_size hf1, hdl, hrs]; omega
      rw [setCells_row P wN hf1 (one_ints v), setCells_row P (show (((w.alloc (.cells row (ρ.t 3))).drew.setRow w.heap.size (splice row i (v.map (Value.int .i64)))).drew).heap[w.heap.size]? = some (.cells (splice row i (v.map (Value.int .i64))) (ρ.t 3) (0, 0)) from row_put wN) hf2 hod]
      refine fresh _ _ cap hcm hge ?_ (row_put (row_put wN)) (by rw [splice_size hf2, splice_size hf1, hrs]) (content _ (fun j h1 h2 => ?_) (fun j h1 h2 => ?_) (fun j h1 => ?_))
      · refine ⟨rfl, rfl, rfl, by simp, fun c hc hb => ?_⟩
        have hne' : c ≠ w.heap.size := by omega
        rw [setRow_other _ _ _ _ hne']
        show ((w.alloc (.cells row (ρ.t 3))).drew.setRow w.heap.size (splice row i (v.map (Value.int .i64)))).heap[c]? = _
        rw [setRow_other _ _ _ _ hne']
        exact Below.heap_alloc w _ c hc
      · rw [splice_at hf2, hdl, if_neg (by omega), splice_at hf1, hvl, if_pos (by omega)]
      · rw [splice_at hf2, hdl, if_pos (by omega), List.getElem?_drop]
        congr 1; omega
      · rw [splice_at hf2, hdl, if_neg (by omega), splice_at hf1, hvl, if_neg (by omega), ← hROW, Array.append_assoc, Array.getElem?_append_left (by simp; omega)]
        simp [h1]
end Go.Gg
