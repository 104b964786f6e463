/- For every input the law ProductRates of chapter 50 returns true and leaves its arguments as they were. Conditions: none. -/
import Derived.Test.YtonbnfgknijpoaaRowC
import Derived.Test.YtonbnfgknijpoaaP50E
import Derived.Test.YtonbnfgknijpoaaK3
import Derived.Test.YtonbnfgknijpoaaFactA
import Derived.Test.YtonbnfgknijpoaaFactB
import Derived.Test.YtonbnfgknijpoaaFactC
namespace Go.Proofs.Ytonbnfgknijpoaa.productRates
open Go.Gg Go.ChangeShapes Go.WideShapes Go.ChangeAt Go.RowKit

theorem u32 {l : List Int} (h : ∀ n ∈ l, IntKind.u32.min ≤ n ∧ n ≤ IntKind.u32.max) : Words l := by
  intro i
  rcases Nat.lt_or_ge i l.length with h1 | h1
  · have := h l[i] (List.getElem_mem h1)
    rw [List.getD_eq_getElem?_getD, List.getElem?_eq_getElem h1, Option.getD_some]
    have e1 : IntKind.u32.min = 0 := rfl
    have e2 : IntKind.u32.max = 4294967295 := rfl
    omega
  · rw [List.getD_eq_getElem?_getD, List.getElem?_eq_none h1]
    simp
theorem okWr {x : GRat} (h : okRat x) : WrR x := ⟨u32 h.2.1.2, u32 h.2.2.2⟩
theorem okWl {l : List GRat} (h : okL okRat l) : WrL l := fun i hi => okWr (h.2 _ (by
  simp only [at', Int.toNat_natCast, List.getD_eq_getElem?_getD, List.getElem?_eq_getElem hi, Option.getD_some]
  exact List.getElem_mem hi))
theorem main {x : GRates} {a b : GRat} (hx : okRates x) (ha : okRat a) (hb : okRat b) : Ctr Try.prog 3 [eRates x, eRat a, eRat b] S0 (fun v _ => v = .bool true) :=
  law50_ProductRates_ctr (Q := fun r => r = true) (law50_ProductRates_s hx.1.1 hx.2.1 (okWl hx.1) (okWl hx.2) (okWr ha) (okWr hb) rfl) (fun r h => by rw [h])

theorem own : ownKnob Try.prog.godebug = none := by kernel_rfl
set_option maxRecDepth 100000 in
theorem contract (H : Type) (enc : TypeId × Value → H) (W : World) (base : Nat) (args : Array Value) (ds gs : List (DataW H)) (before : List MemPlace)
    (hval : ∀ (j : Nat) t v, Try.f3.params[j]? = some t → args[j]? = some v → Value.okWide Try.prog W .any base t v)
    (hW : DataW.Whole enc Try.prog Try.f3.params.toList Rows.productRatesSpec.vars false W args.toList ds gs before) :
    Calls Try.prog 3 args W fun e W' => ∃ v, e = .returned v ∧ Rows.productRatesSpec.post enc Try.prog Try.f3 false true false false W args v W' := by
  have hW' := hW
  obtain ⟨p, q, hA0, hV, rfl, hfz, hnd⟩ := hW
  have hA : DataW.TrodAll enc Try.prog W 0 (fun _ => true) true Try.f3.params.toList args.toList ds p := hA0
  rw [Try.params3] at hA hval
  obtain ⟨v0, vs0, d0, ds0, p0, q0, hargs, rfl, rfl, h0, r0⟩ := trodAll_cons hA
  obtain ⟨v1, vs1, d1, ds1, p1, q1, rfl, rfl, rfl, h1, r1⟩ := trodAll_cons r0
  obtain ⟨v2, vs2, d2, ds2, p2, q2, rfl, rfl, rfl, h2, r2⟩ := trodAll_cons r1
  obtain ⟨rfl, rfl, rfl⟩ := trodAll_nil r2
  obtain rfl : args = #[v0, v1, v2] := by cases args; simp_all
  obtain ⟨rfl, rfl⟩ := trodVars_none hV
  obtain ⟨m0, e0⟩ := h0
  obtain ⟨m1, e1⟩ := h1
  obtain ⟨m2, e2⟩ := h2
  obtain ⟨x0, o0, s0, w0⟩ := rd24 W H enc _ _ _ e0
  obtain ⟨x1, o1, s1, w1⟩ := rd27 W H enc _ _ _ e1
  obtain ⟨x2, o2, s2, w2⟩ := rd27 W H enc _ _ _ e2
  have a0 : VR (gw W) (eRates x0) v0 := arg_agg (hval 0 24 v0 rfl rfl) Try.underlying24 w0
  have a1 : VR (gw W) (eRat x1) v1 := arg_agg (hval 1 27 v1 rfl rfl) Try.underlying27 w1
  have a2 : VR (gw W) (eRat x2) v2 := arg_agg (hval 2 27 v2 rfl rfl) Try.underlying27 w2
  refine (law_calls (main o0 o1 o2) (vrs3 a0 a1 a2)).mono fun e W' ⟨he, hb⟩ => ⟨_, he, ?_⟩
  exact law_end (by kernel_rfl) (by rw [Try.params3]; intro t ht; simp at ht; rcases ht with rfl | rfl <;> exact ⟨by kernel_rfl, of_decide_eq_true (by kernel_rfl)⟩) rfl rfl Try.underlying4 hW' rfl hb

set_option maxRecDepth 100000 in
theorem lifted (os : Os) (started : os.Started) (H : Type) (enc : TypeId × Value → H) :
    ReturnsInHanded {} Try.checked os 3 .any (Rows.productRatesSpec.pre6 enc Try.prog Try.f3 Rows.productRatesRow.domain false) (Rows.productRatesSpec.post enc Try.prog Try.f3 false true false false) := by
  refine returnsInHanded_of_change (C := Try.checked) own started (by kernel_rfl) Try.func3
    (ChangeSpec.witness6 (enc := enc) (C := Try.checked) false ⟨#[], #[.agg #[.slice none 0 0, .slice none 0 0], .agg #[.bool false, .slice none 0 0, .slice none 0 0], .agg #[.bool false, .slice none 0 0, .slice none 0 0]], []⟩ 8 (by kernel_rfl) (by kernel_rfl) (by kernel_rfl) (by kernel_rfl)) ?_
  intro W base args ds gs before hval hW _ _
  exact contract H enc W base args ds gs before hval hW
theorem and_t {a b : Bool} (h : a = true) (k : b = true) : (a && b) = true := by rw [h, k]; rfl
theorem f_inPlace : (Rows.productRatesRow.inPlace == Try.prog.inPlace 3) = true := by kernel_rfl
theorem f_unfollowed : (Rows.productRatesRow.unfollowed == Try.prog.unfollowed 3) = true := by kernel_rfl
theorem f_recurses : (Rows.productRatesRow.recurses == Try.prog.recurses 3) = true := by kernel_rfl
theorem f_named : (Rows.productRatesRow.named == Try.prog.varsNamed 3) = true := by kernel_rfl
theorem f_laid : laidOutB Try.prog = true := by kernel_rfl
theorem f_heard : Try.prog.stopsHeard = true := by kernel_rfl
theorem facts : joinedFacts Try.prog 3 Try.f3 Rows.productRatesSpec Rows.productRatesRow = true := by
  unfold joinedFacts
  exact and_t (and_t (and_t (and_t (and_t (and_t (and_t (and_t (and_t (and_t (and_t (and_t (and_t (and_t (and_t (and_t (and_t (and_t (and_t (and_t (and_t (and_t (and_t (and_t (and_t (and_t (and_t (and_t (and_t (and_t (and_t ((by kernel_rfl)) f_laid) (by kernel_rfl)) (by kernel_rfl)) (by kernel_rfl)) (by kernel_rfl)) (by kernel_rfl)) (by kernel_rfl)) (by kernel_rfl)) f_inPlace) f_unfollowed) f_recurses) f_named) (by kernel_rfl)) (by kernel_rfl)) (by kernel_rfl)) (by kernel_rfl)) (by kernel_rfl)) (by kernel_rfl)) (by kernel_rfl)) (by kernel_rfl)) (by kernel_rfl)) (by kernel_rfl)) (by kernel_rfl)) f_heard) fact_may) fact_lift) fact_make) (by kernel_rfl)) (by kernel_rfl)) (by kernel_rfl)) (by kernel_rfl)
theorem proved : Rows.ProductRatesSaid :=
  OpenClaim.holds_of_wide 3 Try.f3 rfl rfl rfl rfl rfl rfl rfl ⟨rfl, rfl, rfl, rfl, rfl⟩ rfl rfl rfl rfl rfl (by kernel_rfl) Try.func3 facts
    (of_decide_eq_true (by kernel_rfl)) (by unfold Func.isWrapper; first | (rw [if_pos (by decide +kernel)]; kernel_rfl) | (rw [if_neg (by decide +kernel)]; exact ⟨rfl, rfl⟩))
    (fun os started H enc _ => lifted os started H enc)
end Go.Proofs.Ytonbnfgknijpoaa.productRates
