/- An own logic over the kit's weakest preconditions, part T: rows within boxes, closures. Conditions: none. -/
import Derived.Test.YtonbnfgknijpoaaGc
namespace Go.Gg
/-- The contents of an object, seen otherwise in one ghost state. -/
def OWG (G : Ghost) : GObj → GObj → Prop
  | .arr kk es, .arr kk' es' => kk = kk' ∧ es.length = es'.length ∧ ∀ i (h : i < es.length) (h' : i < es'.length), es[i].cells.length = es'[i].cells.length ∧ ∀ j (h1 : j < es[i].cells.length) (h2 : j < es'[i].cells.length) z, VR G es[i].cells[j] z → VR G es'[i].cells[j] z
  | _, _ => False
theorem Rel.owG {G : Ghost} {S : St} {w : World} (h : Rel G S w) {r k g : Nat} {o o' : GObj} (hS : S r k = some (o, g)) (ho : OWG G o o') : Rel G (S.set r k o' g) w := by
  refine h.remap fun r' k' o2 g2 e => ?_
  simp only [St.set] at e
  split at e
  · rename_i hc
    obtain ⟨rfl, rfl⟩ := hc
    cases e
    refine ⟨o, hS, fun L hL => ?_⟩
    obtain ⟨L', hL', hobj, _⟩ := h.obj _ _ _ _ hS
    obtain rfl : L' = L := by rw [hL] at hL'; exact (Option.some.inj hL').symm
    cases o with
    | mp => exact ho.elim
    | arr kk es =>
    cases o' with
    | mp => exact ho.elim
    | arr kk' es' =>
    obtain ⟨rfl, hl, hv⟩ := ho
    obtain ⟨h1, h2, h3, h3', h4, h5⟩ := hobj
    refine ⟨h1, h2, by omega, h3', fun i hi => ?_, fun hc => ?_⟩
    · rw [← (hv i (by omega) hi).1]; exact h4 i (by omega)
    · obtain ⟨row, a1, a2, a3⟩ := h5 hc
      refine ⟨row, a1, a2, fun i hi j hj => ?_⟩
      have hvi := hv i (by omega) hi
      obtain ⟨z, z1, z2⟩ := a3 i (by omega) j (by rw [hvi.1]; exact hj)
      exact ⟨z, z1, hvi.2 j _ hj z z2⟩
  · exact ⟨o2, e, fun L hL => by
      obtain ⟨L', hL', hobj, _⟩ := h.obj _ _ _ _ e
      obtain rfl : L' = L := by rw [hL] at hL'; exact (Option.some.inj hL').symm
      exact hobj⟩
/-- A nil slice in a box becomes an empty row of the call's own. -/
theorem Vc.matB {P : Program} {n : Nat} {c : Code} {Q : AK} {t : Env} {S0 : St} {rg : Nat} {l : Objs} {a : AV} {b : Nat → AV} {kk g0 : Nat} (k0 i k k1 : Nat) (hS : lkp l k0 = some (.arr kk [a], g0)) (hc : a.cells[i]? = some .nil) (hk : 0 < k1) (hne : k ≠ k0)
    (hb : (fun g => (b g).cells) = fun g => a.cells.set i (.sl k1 rg k g 0 0)) (h : ∀ g, Vc P n c Q t (stL S0 rg ((k0, .arr kk [b g], g0) :: (k, .arr k1 [], g) :: l))) : Vc P n c Q t (stL S0 rg l) := by
  intro hok G w0 w hr ht
  obtain ⟨g, G', q1, q2, q3⟩ := hr.mat rg k k1 hk
  have hS2 : ((stL S0 rg l).set rg k (.arr k1 []) g) rg k0 = some (.arr kk [a], g0) := by
    simp only [St.set]
    rw [if_neg (fun hh => hne hh.2.symm), stL_at]
    exact hS
  have hcb : (b g).cells = a.cells.set i (.sl k1 rg k g 0 0) := congrFun hb g
  have q4 := q2.owG (o' := .arr kk [b g]) hS2 ⟨rfl, rfl, fun x h1 h2 => by
    have : x = 0 := by simpa using h1
    subst this
    simp only [List.getElem_cons_zero]
    refine ⟨by rw [hcb, List.length_set], fun j h3 h4 z hz => ?_⟩
    have e : (b g).cells[j] = (a.cells.set i (.sl k1 rg k g 0 0))[j]'(by rw [List.length_set]; exact h3) := by simp only [hcb]
    rw [e, List.getElem_set]
    split
    · rename_i hij
      subst hij
      rw [List.getElem?_eq_getElem h3] at hc
      rw [Option.some.inj hc] at hz
      cases hz
      exact q3
    · exact hz⟩
  rw [stL_set, stL_set] at q4
  exact wp_mono (h g hok G' w0 w q4 (ht.mono q1)) (fun _ _ _ he => AK.lift_mono q1 he)
/-- The elements of a row, seen otherwise one by one. -/
def OWA : List AV → List AV → Prop
  | [], [] => True
  | a :: l, b :: m => VWC a b ∧ OWA l m
  | _, _ => False
theorem owan : OWA [] [] := trivial
theorem owac {a b : AV} {l m : List AV} (h : VWC a b) (h' : OWA l m) : OWA (a :: l) (b :: m) := ⟨h, h'⟩
theorem OWA.len : ∀ {l m : List AV}, OWA l m → l.length = m.length
  | [], [], _ => rfl
  | _ :: _, _ :: _, h => by rw [List.length_cons, List.length_cons, OWA.len h.2]
  | [], _ :: _, h => h.elim
  | _ :: _, [], h => h.elim
theorem OWA.at : ∀ {l m : List AV}, OWA l m → ∀ i (h1 : i < l.length) (h2 : i < m.length), VWC l[i] m[i]
  | _ :: _, _ :: _, h, 0, _, _ => h.1
  | _ :: _, _ :: _, h, i + 1, h1, h2 => OWA.at h.2 i (by simpa using h1) (by simpa using h2)
  | [], _, _, _, h1, _ => absurd h1 (by simp)
  | _ :: _, [], h, _, _, _ => h.elim
theorem OW.all {kk : Nat} {l m : List AV} (h : OWA l m) : OW (.arr kk l) (.arr kk m) := ⟨rfl, h.len.symm, fun i h1 h2 => h.at i h1 h2⟩
/-- An element of an array in a box, at a known place. -/
theorem o_idxA {P : Program} {rg : Nat} {t : Env} {S : St} {K : AV → St → Prop} {x i : Operand} {kd : IntKind} {m : Int} {T e : TypeId} {d : Option Nat} {r k g off c off' len s : Nat} (hT : td P T = .array len e) (hs : sz P e = s) (h0 : 0 < s) (hx : ev t x = .ptr r k g 0 off) (hi : ev t i = .int kd m)
    (hm : m = (c : Int)) (hc : c < len) (ho : off + c * s = off') (h : K (.ptr r k g 0 off') S) : vo P rg d (.indexAddr T x i) t S K := by
  rw [vo_indexAddr, hx, hi, vIdxAddr, hT]
  subst hm
  refine ⟨⟨by omega, by omega⟩, by rw [hs]; exact h0, ?_⟩
  rw [hs, Int.toNat_natCast, ho]
  exact h
end Go.Gg
