/- For every input the law ProductBalanced of chapter 50 returns true and leaves its arguments as they were. Conditions: none. -/
import Derived.Test.YtonbnfgknijpoaaRowD
import Derived.Test.YtonbnfgknijpoaaLw9
import Derived.Test.YtonbnfgknijpoaaKLProductBalanced
import Derived.Test.YtonbnfgknijpoaaFactA
import Derived.Test.YtonbnfgknijpoaaFactB
import Derived.Test.YtonbnfgknijpoaaFactC
namespace Go.Proofs.Ytonbnfgknijpoaa.productBalanced
open Go.Gg Go.ChangeShapes Go.WideShapes Go.ChangeAt Go.RowKit

theorem main {x0 : GRates} (o0 : okRates x0) : Ctr Try.prog 9 [eRates x0] S0 (fun v _ => v = .bool true) :=
  law50_ProductBalanced_ctr (Q := fun r => r = true) (law50_ProductBalanced_s o0.1.1 o0.2.1 (okWl o0.1) (okWl o0.2) rfl) (fun r h => by rw [h])

set_option maxRecDepth 100000 in
theorem contract (H : Type) (enc : TypeId × Value → H) (W : World) (base : Nat) (args : Array Value) (ds gs : List (DataW H)) (before : List MemPlace)
    (hval : ∀ (j : Nat) t v, Try.f9.params[j]? = some t → args[j]? = some v → Value.okWide Try.prog W .any base t v)
    (hW : DataW.Whole enc Try.prog Try.f9.params.toList Rows.productBalancedSpec.vars false W args.toList ds gs before) :
    Calls Try.prog 9 args W fun e W' => ∃ v, e = .returned v ∧ Rows.productBalancedSpec.post enc Try.prog Try.f9 false true false false W args v W' := by
  have hW' := hW
  obtain ⟨p, q, hA0, hV, rfl, hfz, hnd⟩ := hW
  have hA : DataW.TrodAll enc Try.prog W 0 (fun _ => true) true Try.f9.params.toList args.toList ds p := hA0
  rw [Try.params9] at hA hval
  obtain ⟨v0, vs0, d0, ds0, p0, q0, hargs, rfl, rfl, h0, r0⟩ := trodAll_cons hA
  obtain ⟨rfl, rfl, rfl⟩ := trodAll_nil r0
  obtain rfl : args = #[v0] := by cases args; simp_all
  obtain ⟨rfl, rfl⟩ := trodVars_none hV
  obtain ⟨m0, e0⟩ := h0
  obtain ⟨x0, o0, s0, w0⟩ := rd24 W H enc _ _ _ e0
  have a0 : VR (gw W) (eRates x0) v0 := arg_agg (hval 0 24 v0 rfl rfl) Try.underlying24 w0
  refine (law_calls (main o0) (vrs1 a0)).mono fun e W' ⟨he, hb⟩ => ⟨_, he, ?_⟩
  exact law_end (by kernel_rfl) (by rw [Try.params9]; intro t ht; simp at ht; rcases ht with rfl <;> exact ⟨by kernel_rfl, of_decide_eq_true (by kernel_rfl)⟩) rfl rfl Try.underlying4 hW' rfl hb

set_option maxRecDepth 100000 in
theorem lifted (os : Os) (started : os.Started) (H : Type) (enc : TypeId × Value → H) :
    ReturnsInHanded {} Try.checked os 9 .any (Rows.productBalancedSpec.pre6 enc Try.prog Try.f9 Rows.productBalancedRow.domain false) (Rows.productBalancedSpec.post enc Try.prog Try.f9 false true false false) := by
  refine returnsInHanded_of_change (C := Try.checked) own started (by kernel_rfl) Try.func9
    (ChangeSpec.witness6 (enc := enc) (C := Try.checked) false ⟨#[], #[.agg #[.slice none 0 0, .slice none 0 0]], []⟩ 8 (by kernel_rfl) (by kernel_rfl) (by kernel_rfl) (by kernel_rfl)) ?_
  intro W base args ds gs before hval hW _ _
  exact contract H enc W base args ds gs before hval hW
theorem f_inPlace : (Rows.productBalancedRow.inPlace == Try.prog.inPlace 9) = true := by kernel_rfl
theorem f_unfollowed : (Rows.productBalancedRow.unfollowed == Try.prog.unfollowed 9) = true := by kernel_rfl
theorem f_recurses : (Rows.productBalancedRow.recurses == Try.prog.recurses 9) = true := by kernel_rfl
theorem f_named : (Rows.productBalancedRow.named == Try.prog.varsNamed 9) = true := by kernel_rfl
theorem facts : joinedFacts Try.prog 9 Try.f9 Rows.productBalancedSpec Rows.productBalancedRow = true := by
  unfold joinedFacts
  exact and_t (and_t (and_t (and_t (and_t (and_t (and_t (and_t (and_t (and_t (and_t (and_t (and_t (and_t (and_t (and_t (and_t (and_t (and_t (and_t (and_t (and_t (and_t (and_t (and_t (and_t (and_t (and_t (and_t (and_t (and_t ((by kernel_rfl)) f_laid) (by kernel_rfl)) (by kernel_rfl)) (by kernel_rfl)) (by kernel_rfl)) (by kernel_rfl)) (by kernel_rfl)) (by kernel_rfl)) f_inPlace) f_unfollowed) f_recurses) f_named) (by kernel_rfl)) (by kernel_rfl)) (by kernel_rfl)) (by kernel_rfl)) (by kernel_rfl)) (by kernel_rfl)) (by kernel_rfl)) (by kernel_rfl)) (by kernel_rfl)) (by kernel_rfl)) (by kernel_rfl)) f_heard) fact_may) fact_lift) fact_make) (by kernel_rfl)) (by kernel_rfl)) (by kernel_rfl)) (by kernel_rfl)
theorem proved : Rows.ProductBalancedSaid :=
  OpenClaim.holds_of_wide 9 Try.f9 rfl rfl rfl rfl rfl rfl rfl ⟨rfl, rfl, rfl, rfl, rfl⟩ rfl rfl rfl rfl rfl (by kernel_rfl) Try.func9 facts
    (of_decide_eq_true (by kernel_rfl)) (by unfold Func.isWrapper; first | (rw [if_pos (by decide +kernel)]; kernel_rfl) | (rw [if_neg (by decide +kernel)]; exact ⟨rfl, rfl⟩))
    (fun os started H enc _ => lifted os started H enc)
end Go.Proofs.Ytonbnfgknijpoaa.productBalanced
