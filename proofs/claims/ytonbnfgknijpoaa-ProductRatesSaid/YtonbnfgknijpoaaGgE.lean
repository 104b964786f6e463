/- An own logic over the kit's weakest preconditions, part E: every quiet operation's formula is sound. Conditions: none. -/
import Derived.Test.YtonbnfgknijpoaaGgD
namespace Go.Gg

section
variable {P : Program} {G : Ghost} {S : St} {w : World}

theorem q_load {T : TypeId} {a : AV} {x : Value} {K : AV → Prop} (hr : Rel G S w) (hx : VR G a x) (h : vLoad P T a S K) :
    ∃ v av, (Instr.loadAt T x).run P w = .ok v w ∧ K av ∧ VR G av v := by
  unfold vLoad at h
  cases hx with
  | ptr r k g i off L' hL' =>
    simp only at h
    split at h
    · rename_i kk es g' hS
      obtain ⟨⟨rfl, hi, hsz, hone, hoff⟩, hk⟩ := h
      obtain ⟨L, hL, hobj, _⟩ := hr.obj _ _ _ _ hS
      obtain rfl : L = L' := by rw [hL] at hL'; exact Option.some.inj hL'
      have hlen : es[i].cells.length = kk := hobj.2.2.2.2.1 i hi
      have hk1 : L.k = kk := hobj.2.1
      obtain ⟨v, hv1, hv2⟩ := run_loadVar (P := P) (w := w) (G := G) (T := T) (c := L.block) (x := i * L.k) (cs := es[i].cells) hsz hone (off := off) (by omega)
        (fun j hj => by
          obtain ⟨u, hu1, hu2⟩ := hobj.cell hi (j := j) (by omega)
          exact ⟨u, hu1, hu2⟩)
      refine ⟨v, _, ?_, hk, ?_⟩
      · simp only [Instr.loadAt, Instr.sureAddr, Sem.run_bind, Sem.run_pure, Result.andThen_ok]
        exact hv1
      · rw [List.getD_eq_getElem?_getD, List.getElem?_eq_getElem hi]
        exact hv2
    · exact h.elim
  | iptr cs c x u hu1 hu2 =>
    obtain ⟨⟨hsz, hone, hoff⟩, hk⟩ := h
    obtain ⟨v, hv1, hv2⟩ := run_loadVar (P := P) (w := w) (G := G) (T := T) (c := c) (x := x) (cs := cs) hsz hone (off := 0) (by omega)
        (fun j hj => ⟨u j, hr.imm _ _ _ (hu1 j hj), hu2 j hj⟩)
    refine ⟨v, _, ?_, hk, hv2⟩
    simp only [Instr.loadAt, Instr.sureAddr, Sem.run_bind, Sem.run_pure, Result.andThen_ok]
    exact hv1
  | _ => exact h.elim

theorem run_fieldPlace {a : Addr} {f : Field} (h : 0 < sz P f.type) : (fieldPlace a f).run P w = .ok (a.add f.offset) w := by
  have h0 : ¬ sz P f.type = 0 := by omega
  simp [fieldPlace, run_sizeOf h, h0]

theorem fs_getD {fields : Array Field} {f : Nat} (h : f < (fields.toList.map fun f => (f.offset, f.type)).length) :
    ∃ fd, fields[f]? = some fd ∧ (fields.toList.map fun f => (f.offset, f.type)).getD f (0, 0) = (fd.offset, fd.type) := by
  simp only [List.length_map, Array.length_toList] at h
  refine ⟨fields[f], by simp [h], ?_⟩
  rw [List.getD_eq_getElem?_getD]
  simp [h]

theorem addr_add (c x n : Nat) : (⟨c, x, none⟩ : Addr).add n = ⟨c, x + n, none⟩ := by unfold Addr.add; split <;> simp_all

/-- A pointer into cells that nobody writes, moved on. -/
theorem VR.iptr_drop {cs : List AV} {c x n : Nat} {u : Nat → Value} (h1 : ∀ j, j < cs.length → G.imm c (x + j) = some (u j)) (h2 : ∀ j (h : j < cs.length), VR G cs[j] (u j)) :
    VR G (.iptr (cs.drop n)) (.pointer (some ⟨c, x + n, none⟩)) := by
  refine .iptr _ c (x + n) (fun j => u (n + j)) (fun j hj => ?_) (fun j hj => ?_)
  · simp only [List.length_drop] at hj
    rw [Nat.add_assoc]; exact h1 _ (by omega)
  · simp only [List.length_drop] at hj
    rw [List.getElem_drop]
    exact h2 _ (by omega)

theorem q_fieldAddr {T f : Nat} {a : AV} {x : Value} {K : AV → Prop} (hx : VR G a x) (h : vFieldAddr P T f a K) :
    ∃ v av, (Instr.fieldAt T x f).run P w = .ok v w ∧ K av ∧ VR G av v := by
  unfold vFieldAddr at h
  split at h
  · rename_i fs hd
    obtain ⟨fields, hu, rfl⟩ := td_struct hd
    obtain ⟨hf, hsz, h⟩ := h
    obtain ⟨fd, hfd, hg⟩ := fs_getD hf
    rw [hg] at h hsz
    simp only at h hsz
    have key : ∀ ad : Addr, (Instr.fieldAt T (.pointer (some ad)) f).run P w = .ok (.pointer (some (ad.add fd.offset))) w := by
      intro ad
      simp only [Instr.fieldAt, Sem.run_bind, run_underlying hu, Result.andThen_ok, hfd, Instr.sureAddr, Sem.run_pure, run_fieldPlace hsz]
    cases hx with
    | ptr r k g i off L hL => exact ⟨_, _, key _, h, by rw [addr_add, Nat.add_assoc]; exact .ptr _ _ _ _ _ L hL⟩
    | iptr cs c x u h1 h2 => exact ⟨_, _, key _, h.2, by rw [addr_add]; exact VR.iptr_drop h1 h2⟩
    | _ => exact h.elim
  · exact h.elim

theorem q_idxAddr {T : Nat} {a i : AV} {x y : Value} {K : AV → Prop} (hx : VR G a x) (hy : VR G i y) (h : vIdxAddr P T a i K) :
    ∃ v av, (Instr.indexAt T x y).run P w = .ok v w ∧ K av ∧ VR G av v := by
  unfold vIdxAddr at h
  cases hy with
  | int ki n =>
    simp only at h
    split at h
    · rename_i e hd
      have hu := td_slice hd
      cases hx with
      | sl kk r k g off len a L hL hk hc hm ha =>
        obtain ⟨⟨h0, h1⟩, ⟨hk0, hkk⟩, hK⟩ := h
        have ha' := ha (by omega)
        subst ha'
        refine ⟨.pointer (some ((⟨L.block, off * L.k, none⟩ : Addr).add (n.toNat * sz P e))), _, ?_, hK, ?_⟩
        · simp [Instr.indexAt, asIntOf, run_underlying hu, h0, h1, run_sizeOf (P := P) (T := e) (by omega)]
        · rw [addr_add, ← hkk, ← hk, ← Nat.add_mul]
          exact .ptr _ _ _ _ 0 L hL
      | list es a len cap c x k u hn hcap hm ha hk hi hv =>
        obtain ⟨⟨h0, h1⟩, ⟨hs0, hkk⟩, hK⟩ := h
        have ha' := ha (by omega)
        subst ha'
        have hlt : n.toNat < es.length := by omega
        have hge : es.getD n.toNat .junk = es[n.toNat] := by rw [List.getD_eq_getElem?_getD, List.getElem?_eq_getElem hlt]; rfl
        rw [hge] at hkk hK
        have hkk' : k = sz P e := (hk _ hlt).symm.trans hkk
        refine ⟨.pointer (some ((⟨c, x, none⟩ : Addr).add (n.toNat * sz P e))), _, ?_, hK, ?_⟩
        · have h1' : n < (len : Int) := by omega
          simp [Instr.indexAt, asIntOf, run_underlying hu, h0, h1', run_sizeOf (P := P) (T := e) hs0]
        · rw [addr_add, ← hkk']
          refine .iptr _ c _ (u n.toNat) (fun j hj => ?_) (fun j hj => hv _ hlt j hj)
          rw [hk _ hlt] at hj
          rw [Nat.add_assoc]
          exact hi _ _ (by omega) hj
      | _ => exact h.elim
    · rename_i len e hd
      have hu := td_array hd
      cases hx with
      | ptr r k g i off L hL =>
        obtain ⟨⟨h0, h1⟩, hsz, hK⟩ := h
        refine ⟨.pointer (some ((⟨L.block, i * L.k + off, none⟩ : Addr).add (n.toNat * sz P e))), _, ?_, hK, ?_⟩
        · simp [Instr.indexAt, asIntOf, run_underlying hu, h0, h1, Instr.sureAddr, run_sizeOf hsz]
        · rw [addr_add, Nat.add_assoc]
          exact .ptr _ _ _ _ _ L hL
      | iptr cs c x u q1 q2 =>
        obtain ⟨⟨h0, h1⟩, hsz, hle, hK⟩ := h
        refine ⟨.pointer (some ((⟨c, x, none⟩ : Addr).add (n.toNat * sz P e))), _, ?_, hK, ?_⟩
        · simp [Instr.indexAt, asIntOf, run_underlying hu, h0, h1, Instr.sureAddr, run_sizeOf hsz]
        · rw [addr_add]
          exact VR.iptr_drop q1 q2
      | _ => exact h.elim
    · exact h.elim
  | _ => exact h.elim
end
end Go.Gg
