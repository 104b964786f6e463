/- An own logic over the kit's weakest preconditions, part D: the formulas of quiet operations are sound. Conditions: none. -/
import Derived.Test.YtonbnfgknijpoaaGgC
namespace Go.Gg

section
variable {P : Program} {T : TypeId}
theorem td_bool (h : td P T = .bool) : P.underlying T = some .bool := by unfold td at h; split at h <;> first | assumption | cases h
theorem td_int {k : IntKind} (h : td P T = .int k) : P.underlying T = some (.int k) := by unfold td at h; split at h <;> first | (cases h; assumption) | cases h
theorem td_slice {e : TypeId} (h : td P T = .slice e) : P.underlying T = some (.slice e) := by unfold td at h; split at h <;> first | (cases h; assumption) | cases h
theorem td_array {n : Nat} {e : TypeId} (h : td P T = .array n e) : P.underlying T = some (.array n e) := by unfold td at h; split at h <;> first | (cases h; assumption) | cases h
theorem td_map {k e : TypeId} (h : td P T = .map k e) : P.underlying T = some (.map k e) := by unfold td at h; split at h <;> first | (cases h; assumption) | cases h
theorem td_struct {fs : List (Nat × TypeId)} (h : td P T = .struct fs) : ∃ fields : Array Field, P.underlying T = some (.struct fields) ∧ fs = fields.toList.map fun f => (f.offset, f.type) := by
  unfold td at h; split at h <;> first | (cases h; exact ⟨_, by assumption, rfl⟩) | cases h
theorem td_iface (h : td P T = .iface) : ∃ ms, P.underlying T = some (.interface ms) := by unfold td at h; split at h <;> first | exact ⟨_, by assumption⟩ | cases h
theorem td_concrete (h : (match td P T with | .iface | .other => False | _ => True)) : ∃ d, P.underlying T = some d ∧ ∀ ms, d ≠ .interface ms := by
  unfold td at h
  cases hu : P.underlying T with
  | none => rw [hu] at h; exact h.elim
  | some d =>
    refine ⟨d, rfl, fun ms e => ?_⟩
    subst e
    rw [hu] at h
    exact h
theorem sz_pos (h : 0 < sz P T) : ∃ i d, P.info? T = some i ∧ P.underlying T = some d ∧ i.size = sz P T := by
  unfold sz at h ⊢
  cases hi : P.info? T with
  | none => simp [hi] at h
  | some i =>
    cases hu : P.underlying T with
    | none => simp [hi, hu] at h
    | some d => exact ⟨i, d, rfl, rfl, rfl⟩
theorem run_sizeOf {w : World} (h : 0 < sz P T) : (sizeOf T).run P w = .ok (sz P T) w := by
  obtain ⟨i, d, hi, _, hs⟩ := sz_pos h
  simp [sizeOf, typeInfo, hi, hs]
theorem run_isAgg {w : World} (h : isAggT P T = true) : (isAgg T).run P w = .ok true w := by
  unfold isAggT at h
  split at h
  · rename_i hd
    obtain ⟨fs, hf, _⟩ := td_struct hd
    simp [isAgg, run_underlying hf]
  · rename_i hd
    simp [isAgg, run_underlying (td_array hd)]
  · cases h
theorem run_notAgg {w : World} {d : TypeDesc} (hd : P.underlying T = some d) (h : isAggT P T = false) : (isAgg T).run P w = .ok false w := by
  unfold isAggT td at h
  rw [hd] at h
  simp only [isAgg, Sem.run_bind, run_underlying hd, Result.andThen_ok]
  cases d <;> first | rfl | (simp at h)
end

section
variable {P : Program} {w : World} {G : Ghost}
/-- A value read from cells that fit. -/
theorem run_loadVar {T : TypeId} {c x : Nat} {cs : List AV} (hsz : 0 < sz P T) (hone : isAggT P T = false → sz P T = 1) {off : Nat} (hl : off + sz P T ≤ cs.length)
    (hc : ∀ j (h : j < cs.length), ∃ u, w.cell? ⟨c, x + j, none⟩ = some u ∧ VR G cs[j] u) :
    ∃ v, (loadVar T ⟨c, x + off, none⟩).run P w = .ok v w ∧ VR G (ldv P T cs off) v := by
  have hadd : ∀ j, (⟨c, x + off, none⟩ : Addr).add j = ⟨c, x + (off + j), none⟩ := fun j => by unfold Addr.add; split <;> simp_all [Nat.add_assoc]
  cases ha : isAggT P T with
  | true =>
    obtain ⟨f, hf⟩ : ∃ f : Nat → Value, ∀ j (h : j < sz P T), w.cell? ⟨c, x + (off + j), none⟩ = some (f j) ∧ VR G (cs[off + j]'(by omega)) (f j) := by
      refine ⟨fun j => if h : j < sz P T then (hc (off + j) (by omega)).choose else undef, fun j h => ?_⟩
      simp only [h, dite_true]
      exact (hc (off + j) (by omega)).choose_spec
    have hr := run_loadCells (P := P) w ⟨c, x + off, none⟩ (sz P T) f (fun j hj => by rw [hadd]; exact (hf j hj).1)
    refine ⟨.agg ((List.range (sz P T)).map f).toArray, ?_, ?_⟩
    · simp only [loadVar, Sem.run_bind, run_isAgg ha, Result.andThen_ok, if_true, run_sizeOf hsz, hr, Sem.run_pure]
    · simp only [ldv, ha, cond_true]
      refine .agg _ _ (by simp; omega) (fun i h h' => ?_)
      simp only [List.length_take, List.length_drop] at h
      simp only [List.getElem_take, List.getElem_drop, List.getElem_toArray, List.getElem_map, List.getElem_range]
      exact (hf i (by omega)).2
  | false =>
    obtain ⟨_, d, _, hd, _⟩ := sz_pos hsz
    have h1 := hone ha
    obtain ⟨u, hu1, hu2⟩ := hc off (by omega)
    refine ⟨u, ?_, ?_⟩
    · simp only [loadVar, Sem.run_bind, run_notAgg hd ha, Result.andThen_ok, Bool.false_eq_true, if_false, run_load, hu1]
    · simp only [ldv, ha, cond_false]
      rw [List.getD_eq_getElem?_getD, List.getElem?_eq_getElem (by omega)]
      exact hu2
end

end Go.Gg
