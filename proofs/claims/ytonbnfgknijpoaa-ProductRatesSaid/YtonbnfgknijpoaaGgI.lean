/- An own logic over the kit's weakest preconditions, part I: make, slice literals, append. Conditions: none. -/
import Derived.Test.YtonbnfgknijpoaaGgH
namespace Go.Gg
open Go.RowKit (Below)

section
variable {P : Program} {G : Ghost} {S : St} {w : World}

theorem one_at {T : TypeId} {i : TypeInfo} {z : Value} (hty : tyok P T = true) (hi : P.info? T = some i) (hz : i.zero = some z) : 0 < i.size ∧ z.cells.size = i.size ∧
    (zav P T).cells.length = i.size ∧ ∀ j (h : j < (zav P T).cells.length) (h' : j < z.cells.size), VR G (zav P T).cells[j] z.cells[j] := by
  obtain ⟨i', z', hi', hz', hzs, hzv, hz0, hzsol⟩ := tyok_zero hty
  rw [hi] at hi'; cases hi'
  rw [hz] at hz'; cases hz'
  have hV : VR G (zav P T) (zval P T) := VR.ofConst G _
  have hsol : (zav P T).solid = true := by unfold zav; rw [hzv]; exact hzsol
  rw [hzv] at hV
  obtain ⟨c1, c2⟩ := hV.cells hsol
  exact ⟨hz0, hzs, by omega, c2⟩

def vMake (P : Program) (rg k : Nat) (T : TypeId) (l c : AV) (S : St) (K : AV → St → Prop) : Prop :=
  match td P T with
  | .slice e => match l, c with
    | .int _ n, .int _ m => (0 ≤ n ∧ n ≤ m ∧ (bts P e : Int) * m ≤ 281474976710656 ∧ m ≤ 9223372036854775807) ∧ tyok P e = true ∧
        ∀ g, K (.sl (zav P e).cells.length rg k g 0 n.toNat) (S.set rg k (.arr (zav P e).cells.length (List.replicate n.toNat (zav P e))) g)
    | _, _ => False
  | _ => False

theorem sop_make {n : Nat} {o : Oper} {t : Env} {T : TypeId} {l c : Operand} {K : AV → St → Prop} (ho : o.op = .makeSlice T l c) (rg k : Nat) (h : vMake P rg k T (ev t l) (ev t c) S K) : SOp P n o t S K := by
  refine sop_value (fun ρ => Instr.makeSlice T (ρ l) (ρ c)) (fun ρ => by simp only [execOp, ho]) fun G ρ w hr he => ?_
  unfold vMake at h
  split at h
  · rename_i e hd
    have hl := he l
    have hc := he c
    generalize ρ l = vl at hl
    generalize ρ c = vc at hc
    split at h
    · rename_i kl nn kc mm e1 e2
      rw [e1] at hl
      rw [e2] at hc
      cases hl; cases hc
      obtain ⟨⟨h0, h1, h2, h3⟩, hty, hK⟩ := h
      obtain ⟨i, z, hi, hz, _⟩ := tyok_zero hty
      obtain ⟨b1, b2, b3, b4⟩ := one_at (P := P) (G := G) hty hi hz
      have hby : (i.bytes : Int) * mm ≤ 281474976710656 := by simpa [bts, hi] using h2
      have hrun := run_make (P := P) w T e i z (td_slice hd) hi hz kl kc nn mm h0 h1 hby h3
      obtain ⟨g, hg⟩ := hr.fresh rg k
      have hel : ∀ p j, j < i.size → p * i.size + j < (madeCells z.cells (mm.toNat * i.size)).size → (madeCells z.cells (mm.toNat * i.size))[p * i.size + j]? = z.cells[j]? := by
        intro p j hj hp
        have hp' : p * i.size + j < mm.toNat * i.size := by simpa [madeCells] using hp
        have hm : (p * i.size + j) % i.size = j := by rw [Nat.mul_comm, Nat.mul_add_mod, Nat.mod_eq_of_lt hj]
        have hjz : j < z.cells.size := by omega
        simp only [madeCells, Array.getElem?_map, Array.getElem?_range, hp', if_true, Option.map_some, b2, hm]
        rw [Array.getElem?_eq_getElem hjz]
        simp [hjz]
      obtain ⟨G', q1, q2, _, q4⟩ := hr.put (World.grownBy_alloc w (.cells (madeCells z.cells (mm.toNat * i.size)) e) none) rg k g (.arr (zav P e).cells.length (List.replicate nn.toNat (zav P e)))
        ⟨w.heap.size, mm.toNat, (zav P e).cells.length, e⟩ (fun b hb => by cases hb) (fun _ => .inl (Nat.le_refl _)) (.inl hg)
        (fun G' hle => arr_at (L := ⟨w.heap.size, mm.toNat, (zav P e).cells.length, e⟩) (row := madeCells z.cells (mm.toNat * i.size)) (heap_alloc_new w _) (by simp only; omega) (by simp [madeCells, b3])
          (by simp; omega) (by simp [maxLen]; omega) (fun i hi => by simp)
          (fun p hp j hj => by
            simp only [List.length_replicate] at hp
            simp only [List.getElem_replicate] at hj ⊢
            have hjz : j < z.cells.size := by omega
            refine ⟨z.cells[j], ?_, (b4 j hj hjz).mono hle⟩
            rw [b3, hel p j (by omega)]
            · simp [hjz]
            · simp only [madeCells, Array.size_map, Array.size_range]
              exact flat_lt (by omega) (by omega)))
      refine ⟨_, _, _, _, G', hrun, hK g, q1, q4, ?_⟩
      have := VR.sl (G := G') (zav P e).cells.length rg k g 0 nn.toNat (some ⟨w.heap.size, 0, none⟩) _ q2 rfl (by simp; omega) (by simp [maxLen]; omega) (fun _ => by simp)
      simpa using this
    · exact h.elim
  · exact h.elim

/-! ### Slice literals -/
theorem fill_rows (k : Nat) : ∀ (vs : List Value) (s : Nat) (cells : Array Value), (∀ v ∈ vs, v.cells.size = k) → (s + vs.length) * k ≤ cells.size →
    ∃ ys, Instr.fill (fun i => some (i * k, k)) cells ((vs.zipIdx s).map fun p => (p.2, p.1)) = some ys ∧ ys.size = cells.size ∧
      (∀ i (h : i < vs.length) j, j < k → ys[(s + i) * k + j]? = vs[i].cells[j]?) ∧ (∀ p, p < s * k → ys[p]? = cells[p]?)
  | [], s, cells, _, _ => ⟨cells, rfl, rfl, fun i h => by simp at h, fun _ _ => rfl⟩
  | v :: vs, s, cells, hk, hl => by
    have hv := hk v (by simp)
    have hl' : (s + 1 + vs.length) * k ≤ cells.size := by simpa [Nat.add_assoc, Nat.add_comm 1] using hl
    have hsk : (s + 1) * k ≤ cells.size := Nat.le_trans (Nat.mul_le_mul_right _ (by omega)) hl'
    have hsk' : s * k + k ≤ cells.size := by rw [Nat.succ_mul] at hsk; exact hsk
    have hf := foldl_set (s * k) v.cells.toList 0 cells
    have he : (v.cells.zipIdx.foldl (fun cs (p : Value × Nat) => cs.setIfInBounds (s * k + p.2) p.1) cells) = (v.cells.toList.zipIdx 0).foldl (fun cs (p : Value × Nat) => cs.setIfInBounds (s * k + p.2) p.1) cells := by
      rw [← Array.foldl_toList, Array.toList_zipIdx]
    obtain ⟨ys, y1, y2, y3, y4⟩ := fill_rows k vs (s + 1) _ (fun u hu => hk u (by simp [hu])) (by rw [hf.1]; exact hl')
    refine ⟨ys, ?_, by rw [y2, hf.1], fun i hi j hj => ?_, fun p hp => ?_⟩
    · simp only [List.zipIdx_cons, List.map_cons, Instr.fill]
      rw [if_neg (by simp; omega), he]
      exact y1
    · cases i with
      | zero =>
        simp only [Nat.add_zero, List.getElem_cons_zero]
        rw [y4 _ (by rw [Nat.succ_mul]; omega), hf.2 _ (by omega), dif_pos (by simp; omega)]
        simp only [Nat.add_zero]
        have : j < v.cells.size := by omega
        rw [Array.getElem?_eq_getElem this]
        congr 1
        simp
      | succ i =>
        simp only [List.length_cons] at hi
        rw [show s + (i + 1) = s + 1 + i from by omega, y3 i (by omega) j hj]
        simp
    · rw [y4 p (by rw [Nat.succ_mul]; omega), hf.2 _ (by omega), dif_neg (by simp; omega)]

def vBuildSlice (P : Program) (rg k : Nat) (T : TypeId) (len : Nat) (idx : List Nat) (es : List AV) (S : St) (K : AV → St → Prop) : Prop :=
  match td P T with
  | .slice e => ((idx == List.range len) = true ∧ es.length = len ∧ tyok P e = true ∧ len * (zav P e).cells.length ≤ 16777216 ∧ (es.all fun x => x.solid && (x.cells.length == (zav P e).cells.length)) = true) ∧
      ∀ g, K (.sl (zav P e).cells.length rg k g 0 len) (S.set rg k (.arr (zav P e).cells.length es) g)
  | _ => False

theorem sop_buildSlice {n : Nat} {o : Oper} {t : Env} {T : TypeId} {len : Nat} {parts : Array (Nat × Operand)} {K : AV → St → Prop} (ho : o.op = .buildSlice T len parts) (rg k : Nat)
    (h : vBuildSlice P rg k T len (parts.toList.map (·.1)) (parts.toList.map fun p => ev t p.2) S K) : SOp P n o t S K := by
  refine sop_value (fun ρ => Instr.buildSlice T len (parts.map fun (i, x) => (i, ρ x))) (fun ρ => by simp only [execOp, ho]) fun G ρ w hr he => ?_
  unfold vBuildSlice at h
  split at h
  · rename_i e hd
    obtain ⟨⟨hidx, hlen, hty, hsmall, hall⟩, hK⟩ := h
    obtain ⟨i, z, hi, hz, _, hzv, _⟩ := tyok_zero hty
    obtain ⟨b1, b2, b3, b4⟩ := one_at (P := P) (G := G) hty hi hz
    have hlen' : parts.toList.length = len := by simpa using hlen
    have hpl : parts.toList.map (fun p => (p.1, ρ p.2)) = ((parts.toList.map fun p => ρ p.2).zipIdx 0).map fun p => (p.2, p.1) := by
      have h1 : parts.toList.map (·.1) = List.range len := by simpa using hidx
      apply List.ext_getElem
      · simp
      · intro j h2 h3
        have h2' : j < parts.toList.length := by simpa using h2
        have h4 : (parts.toList.map (·.1))[j]'(by simpa using h2) = (List.range len)[j]'(by simp only [List.length_range]; omega) := by simp only [h1]
        simp at h4 ⊢
        exact h4
    have hV : ∀ j (h : j < parts.toList.length), VR G (ev t parts.toList[j].2) (ρ parts.toList[j].2) ∧ (ρ parts.toList[j].2).cells.size = i.size ∧ (ev t parts.toList[j].2).solid = true ∧ (ev t parts.toList[j].2).cells.length = i.size := by
      intro j hj
      have h1 := List.all_eq_true.1 hall (ev t parts.toList[j].2) (List.mem_map.2 ⟨_, List.getElem_mem hj, rfl⟩)
      simp only [Bool.and_eq_true, beq_iff_eq] at h1
      have h2 := he parts.toList[j].2
      have h3 := (h2.cells h1.1).1
      exact ⟨h2, by omega, h1.1, by omega⟩
    have hrow0 : ∀ (zc : Array Value), zc.size = i.size → ((Array.range (len * i.size)).map (zc[· % zc.size]!)).size = len * i.size := by intro zc _; simp
    obtain ⟨ys, y1, y2, y3, _⟩ := fill_rows i.size (parts.toList.map fun p => ρ p.2) 0 ((Array.range (len * i.size)).map (z.cells[· % z.cells.size]!))
      (fun v hv => by
        obtain ⟨p, hp, rfl⟩ := List.mem_map.1 hv
        obtain ⟨j, hj, rfl⟩ := List.mem_iff_getElem.1 hp
        exact (hV j hj).2.1) (by simp [hlen'])
    have hrun : (Instr.buildSlice T len (parts.map fun (i, x) => (i, ρ x))).run P w = .ok (.slice (some ⟨w.heap.size, 0, none⟩) len len) (w.alloc (.cells ys e)) := by
      have hsm : ¬ (len * i.size > 2 ^ 24) := by rw [← b3]; omega
      have hml : (parts.map fun (i, x) => (i, ρ x)).toList = parts.toList.map (fun p => (p.1, ρ p.2)) := by simp
      by_cases hl0 : len * i.size = 0
      · have hl1 : len = 0 := by
          rcases Nat.mul_eq_zero.1 hl0 with h | h
          · exact h
          · omega
        subst hl1
        have hpe : parts = #[] := by
          apply Array.ext'; simpa using hlen'
        subst hpe
        have hys : ys = #[] := by
          apply Array.eq_empty_of_size_eq_zero; rw [y2]; simp
        subst hys
        simp [Instr.buildSlice, run_underlying (td_slice hd), sizeOf, typeInfo, hi, Instr.fill, newRow, Array.range_zero']
      · simp only [Instr.buildSlice, Sem.run_bind, run_underlying (td_slice hd), Result.andThen_ok]
        simp only [sizeOf, typeInfo, Sem.run_bind, run_program, Result.andThen_ok, hi, Sem.run_pure, if_neg hsm, if_neg hl0, zeroValue, hz, hml, hpl]
        simp [y1, newRow]
    obtain ⟨g, hg⟩ := hr.fresh rg k
    have hget : ∀ j (h : j < parts.toList.length), (parts.toList.map fun p => ev t p.2)[j]'(by simpa using h) = ev t parts.toList[j].2 := fun j h => by simp
    obtain ⟨G', q1, q2, _, q4⟩ := hr.put (World.grownBy_alloc w (.cells ys e) none) rg k g (.arr (zav P e).cells.length (parts.toList.map fun p => ev t p.2))
      ⟨w.heap.size, len, (zav P e).cells.length, e⟩ (fun b hb => by cases hb) (fun _ => .inl (Nat.le_refl _)) (.inl hg)
      (fun G' hle => arr_at (L := ⟨w.heap.size, len, (zav P e).cells.length, e⟩) (row := ys) (heap_alloc_new w _) (by simp only; omega) (by simp only [y2, b3]; simp) (by simp only; omega)
        (by
          have : len ≤ len * (zav P e).cells.length := Nat.le_mul_of_pos_right _ (by omega)
          simp only [maxLen]; omega)
        (fun p hp => by
          have hp' : p < parts.toList.length := by simpa using hp
          rw [hget p hp', (hV p hp').2.2.2, b3])
        (fun p hp j hj => by
          have hp' : p < parts.toList.length := by simpa using hp
          simp only [hget p hp'] at hj ⊢
          have h1 := hV p hp'
          have hj' : j < (ρ parts.toList[p].2).cells.size := by omega
          refine ⟨(ρ parts.toList[p].2).cells[j], ?_, ((h1.1.cells h1.2.2.1).2 j hj hj').mono hle⟩
          have := y3 p (by simpa using hp') j (by omega)
          simp only [Nat.zero_add, List.getElem_map] at this
          rw [b3, this]
          simp))
    refine ⟨_, _, _, _, G', hrun, hK g, q1, q4, ?_⟩
    have := VR.sl (G := G') (zav P e).cells.length rg k g 0 len (some ⟨w.heap.size, 0, none⟩) _ q2 rfl (by simp)
      (by
        have : len ≤ len * (zav P e).cells.length := Nat.le_mul_of_pos_right _ (by omega)
        simp only [maxLen]; omega) (fun _ => by simp)
    simpa using this
  · exact h.elim
end
end Go.Gg
