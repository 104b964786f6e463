/- From what a row reads to typed values. Conditions: none. -/
import Derived.Test.YtiamkdpljeemkaaWa
import Derived.Test.YtiamkdpljeemkaaRows
import Derived.WalkKit
import Derived.ProofKit
import Derived.OpenShut
import Derived.JoinedCond
import Derived.ChangeArms
import Derived.Carry
/- From what a row reads to typed values. Conditions: none. -/
namespace Go.Gg
open Go.RowKit (Below)
/-- The cells fit the value. -/
def VRL (G : Ghost) (av : AV) (cs : List Value) : Prop := cs.length = av.cells.length ∧ ∀ j (h : j < av.cells.length) (h' : j < cs.length), VR G av.cells[j] cs[j]
/-- All that the world holds at the start. -/
def gw (w : World) : Ghost := ⟨w, fun b o => w.cell? ⟨b, o, none⟩, fun _ _ _ => none, fun _ => False, w.heap.size⟩
def S0 : St := fun _ _ => none
theorem rel0 (w : World) : Rel (gw w) S0 w := by
  refine ⟨⟨Below.refl _ _, fun _ h => h.elim, Nat.le_refl _⟩, fun _ _ _ h => h, fun r k o g e => ?_, fun r k o g r' k' o' g' L L' e => ?_, ⟨0, fun _ _ _ => rfl⟩, fun r k => ⟨0, fun _ _ => rfl⟩⟩
  · cases e
  · cases e
/-- What is read at a type is a typed value. -/
def Rd (P : Program) (w : World) (t : TypeId) {α : Type} (enc : α → AV) (ok : α → Prop) (sz : α → Nat) : Prop :=
  ∀ (H : Type) (en : TypeId × Value → H) (fuel : Nat) (cs : List Value) (x : DataW H × List MemPlace), DataW.trod en P w 0 (fun _ => true) true fuel t cs = some x →
    ∃ y, ok y ∧ sz y ≤ @Proofs.Ytiamkdpljeemkaa.Rows.uptoBulk H x.1 ∧ VRL (gw w) (enc y) cs
theorem VRL_one {G : Ghost} {av : AV} {v : Value} (h1 : av.cells = [av]) (h : VR G av v) : VRL G av [v] := by
  refine ⟨by rw [h1]; rfl, fun j hj hj' => ?_⟩
  simp only [List.length_singleton] at hj'
  obtain rfl : j = 0 := by omega
  simp only [h1, List.getElem_cons_zero]
  exact h
theorem Rd_int {P : Program} {w : World} {t : TypeId} {k : IntKind} (ht : P.underlying t = some (.int k)) : Rd P w t (AV.int k) (fun n => k.min ≤ n ∧ n ≤ k.max) (fun _ => 1) := by
  intro H en fuel cs x h
  cases fuel with
  | zero => simp [DataW.trod] at h
  | succ n =>
    unfold DataW.trod at h
    rw [ht] at h
    split at h <;> simp_all
    obtain ⟨⟨rfl, hw⟩, rfl⟩ := h
    simp only [Lit.wf, Bool.and_eq_true, decide_eq_true_eq] at hw
    exact ⟨_, hw, by simp [Proofs.Ytiamkdpljeemkaa.Rows.uptoBulk], VRL_one rfl (.int _ _)⟩
theorem list_of {α : Type} {p : Nat → α → Prop} : ∀ n, (∀ i, i < n → ∃ y, p i y) → ∃ l : List α, l.length = n ∧ ∀ i (h : i < l.length), p i l[i]
  | 0, _ => ⟨[], rfl, fun i h => absurd h (by simp)⟩
  | n + 1, h => by
    obtain ⟨l, hl, hp⟩ := list_of n (fun i hi => h i (by omega))
    obtain ⟨y, hy⟩ := h n (by omega)
    refine ⟨l ++ [y], by simp [hl], fun i hi => ?_⟩
    rcases Nat.lt_or_ge i n with h1 | h1
    · rw [List.getElem_append_left (by omega)]; exact hp i _
    · have : i = n := by simp at hi; omega
      subst this
      rw [List.getElem_append_right (by omega)]
      simp [hl]; exact hy
/-- A list's size: its elements', and one. -/
def szL {α : Type} (sz : α → Nat) : List α → Nat
  | [] => 1
  | x :: l => sz x + szL sz l
theorem szL_le {α H : Type} {sz : α → Nat} : ∀ (l : List α) (xs : List (DataW H)), l.length = xs.length → (∀ i (h : i < l.length) (h' : i < xs.length), sz l[i] ≤ @Proofs.Ytiamkdpljeemkaa.Rows.uptoBulk H xs[i]) → szL sz l ≤ @Proofs.Ytiamkdpljeemkaa.Rows.uptoBulkAll H xs + 1
  | [], [], _, _ => by simp [szL, Proofs.Ytiamkdpljeemkaa.Rows.uptoBulkAll]
  | y :: l, x :: xs, hl, h => by
    have h0 := h 0 (by simp) (by simp)
    have ih := szL_le l xs (by simpa using hl) (fun i hi hi' => h (i + 1) (by simpa using hi) (by simpa using hi'))
    simp only [szL, Proofs.Ytiamkdpljeemkaa.Rows.uptoBulkAll]
    simp only [List.getElem_cons_zero] at h0
    omega
theorem add_none {a : Addr} (h : a.spot = none) (n : Nat) : a.add n = ⟨a.block, a.off + n, none⟩ := by
  obtain ⟨b, o, s⟩ := a
  simp only at h
  subst h
  unfold Addr.add
  split
  · rename_i h0; subst h0; rfl
  · rfl
theorem Rd_slice {P : Program} {w : World} {t e : TypeId} {α : Type} {enc : α → AV} {ok : α → Prop} {sz : α → Nat} {kk : Nat} (ht : P.underlying t = some (.slice e)) (hk : P.cellsOf e = kk) (h0 : 0 < kk)
    (hc : ∀ x, (enc x).cells.length = kk) (hr : Rd P w e enc ok sz) : Rd P w t (eL enc) (fun l => l.length ≤ 9223372036854775807 ∧ ∀ x ∈ l, ok x) (szL sz) := by
  intro H en fuel cs x h
  rcases DataW.trod_slice ht h with ⟨rfl, rfl⟩ | ⟨a, len, cap, elems, rest, n, rfl, rfl, rfl, hb, hl, hcap, hel, hget, _, _⟩
  · exact ⟨[], ⟨by simp, fun x hx => by cases hx⟩, by simp [szL, Proofs.Ytiamkdpljeemkaa.Rows.uptoBulk], VRL_one rfl (.list [] none 0 0 0 0 0 (fun _ _ => .bool false) rfl (by omega) (by unfold maxLen; omega) (fun hh => by omega) (fun i hi => by simp at hi) (fun i j hi => by omega) (fun i hi => by simp at hi))⟩
  · rw [hk] at hget
    have hel' : ∀ i, i < len → ∃ y, ok y ∧ (∀ z, elems[i]? = some z → sz y ≤ @Proofs.Ytiamkdpljeemkaa.Rows.uptoBulk H z.1) ∧ (∃ ci, w.cells? 0 (a.add (i * kk)) kk = some ci ∧ VRL (gw w) (enc y) ci) := by
      intro i hi
      have hg := hget i hi
      have hi2 : i < elems.length := by omega
      rw [List.getElem?_eq_getElem hi2] at hg
      obtain ⟨ci, h1, h2⟩ := Option.bind_eq_some_iff.1 hg
      obtain ⟨y, hy1, hy2, hy3⟩ := hr H en n ci _ h2
      exact ⟨y, hy1, fun z hz => by rw [List.getElem?_eq_getElem hi2] at hz; cases hz; exact hy2, ci, h1, hy3⟩
    obtain ⟨l, hll, hlp⟩ := list_of len hel'
    have hcell : ∀ i ci, w.cells? 0 (a.add (i * kk)) kk = some ci → ci.length = kk ∧ ∀ j (hj : j < ci.length), w.cell? ((a.add (i * kk)).add j) = some ci[j] := by
      intro i ci hci
      unfold World.cells? at hci
      rw [if_pos (Nat.zero_le _)] at hci
      have e1 : ci.length = kk := by simpa using mapM_some_length hci
      refine ⟨e1, fun j hj => ?_⟩
      have hr : (List.range kk)[j]? = some j := List.getElem?_range (by omega)
      have := mapM_some_get hci j j hr
      rw [List.getElem?_eq_getElem hj] at this
      exact this
    have hspot : 0 < len → a.spot = none := by
      intro hp
      obtain ⟨_, _, ci, h1, _⟩ := hlp 0 (by omega)
      obtain ⟨e1, e2⟩ := hcell 0 ci h1
      have := e2 0 (by omega)
      rw [Nat.zero_mul] at this
      have e3 : (a.add 0).add 0 = a := by unfold Addr.add; rfl
      rw [e3] at this
      unfold World.cell? at this
      split at this
      · split at this
        · cases this
        · rename_i hs; simpa using hs
      · cases this
    refine ⟨l, ⟨by rw [hll]; unfold maxLen at hcap; omega, fun y hy => ?_⟩, ?_, ?_⟩
    · obtain ⟨i, hi, rfl⟩ := List.mem_iff_getElem.1 hy
      exact (hlp i hi).1
    · have := szL_le (sz := sz) l (elems.map (·.1)) (by simp; omega) (fun i hi hi' => by
        have hi2 : i < elems.length := by simpa using hi'
        have := (hlp i hi).2.1 elems[i] (List.getElem?_eq_getElem hi2)
        rw [List.getElem_map]
        exact this)
      simp only [Proofs.Ytiamkdpljeemkaa.Rows.uptoBulk]
      omega
    · refine VRL_one rfl ?_
      refine .list (l.map enc) (some a) len cap a.block a.off kk (fun i j => (w.cell? ⟨a.block, a.off + (i * kk + j), none⟩).getD (.bool false)) (by simp; omega) hl hcap (fun hp => ?_) (fun i hi => by simp [hc]) (fun i j hi hj => ?_) (fun i hi j hj => ?_)
      · have := hspot hp
        obtain ⟨b, o, s⟩ := a
        simp only at this
        subst this
        rfl
      · have hs := hspot (by omega)
        obtain ⟨_, _, ci, h1, _⟩ := hlp i (by omega)
        obtain ⟨e1, e2⟩ := hcell i ci h1
        have := e2 j (by omega)
        rw [add_none hs, add_none rfl] at this
        simp only [Nat.add_assoc] at this
        show w.cell? _ = some _
        rw [this]; rfl
      · have hi2 : i < l.length := by simpa using hi
        have hs := hspot (by omega)
        obtain ⟨_, _, ci, h1, h3⟩ := hlp i hi2
        obtain ⟨e1, e2⟩ := hcell i ci h1
        have hj2 : j < (enc l[i]).cells.length := by simpa using hj
        have hj3 : j < ci.length := by rw [h3.1]; exact hj2
        have := e2 j hj3
        rw [add_none hs, add_none rfl] at this
        simp only [Nat.add_assoc] at this
        rw [this]
        have := h3.2 j hj2 hj3
        simpa using this
end Go.Gg
