/- the law at all orders Conditions: none. -/
import Derived.Test.YtiamkdpljeemkaaRowD
import Derived.Test.YtiamkdpljeemkaaLw32
import Derived.Test.YtiamkdpljeemkaaKLOrderInverts
import Derived.Test.YtiamkdpljeemkaaFactA
/- the law at all orders Conditions: none. -/
namespace Go.Proofs.Ytiamkdpljeemkaa.orderInverts
open Go.Gg Go.ChangeShapes Go.WideShapes Go.ChangeAt Go.RowKit
theorem main {x0 : List Int} (_o0 : (okL (fun n : Int => IntKind.i64.min ≤ n ∧ n ≤ IntKind.i64.max)) x0) : Ctr Try.prog 12 [eL (AV.int .i64) x0] S0 (fun v _ => v = .bool true) :=
  law14_OrderInverts_ctr (Q := fun r => r = true) (law14_OrderInverts_s rfl) (fun r h => by rw [h])
set_option maxRecDepth 100000 in
theorem contract (H : Type) (enc : TypeId × Value → H) (W : World) (base : Nat) (args : Array Value) (ds gs : List (DataW H)) (before : List MemPlace)
    (hval : ∀ (j : Nat) t v, Try.f12.params[j]? = some t → args[j]? = some v → Value.okWide Try.prog W .any base t v)
    (hW : DataW.Whole enc Try.prog Try.f12.params.toList Rows.orderInvertsSpec.vars false W args.toList ds gs before) :
    Calls Try.prog 12 args W fun e W' => ∃ v, e = .returned v ∧ Rows.orderInvertsSpec.post enc Try.prog Try.f12 false true false false W args v W' := by
  have hW' := hW
  obtain ⟨p, q, hA0, hV, rfl, hfz, hnd⟩ := hW
  have hA : DataW.TrodAll enc Try.prog W 0 (fun _ => true) true Try.f12.params.toList args.toList ds p := hA0
  rw [Try.params12] at hA hval
  obtain ⟨v0, vs0, d0, ds0, p0, q0, hargs, rfl, rfl, h0, r0⟩ := trodAll_cons hA
  obtain ⟨rfl, rfl, rfl⟩ := trodAll_nil r0
  obtain rfl : args = #[v0] := by cases args; simp_all
  obtain ⟨rfl, rfl⟩ := trodVars_none hV
  obtain ⟨m0, e0⟩ := h0
  obtain ⟨x0, o0, s0, w0⟩ := rd25 W H enc _ _ _ e0
  have a0 : VR (gw W) ((eL (AV.int .i64)) x0) v0 := arg_one (hval 0 25 v0 rfl rfl) Try.underlying25 rfl rfl w0
  refine (law_calls (main o0) (vrs1 a0)).mono fun e W' ⟨he, hb⟩ => ⟨_, he, ?_⟩
  exact law_end (by kernel_rfl) (by rw [Try.params12]; intro t ht; simp at ht; rcases ht with rfl <;> exact ⟨by kernel_rfl, of_decide_eq_true (by kernel_rfl)⟩) rfl rfl Try.underlying4 hW' rfl hb
set_option maxRecDepth 100000 in
theorem lifted (os : Os) (started : os.Started) (H : Type) (enc : TypeId × Value → H) :
    ReturnsInHanded {} Try.checked os 12 .any (Rows.orderInvertsSpec.pre6 enc Try.prog Try.f12 Rows.orderInvertsRow.domain false) (Rows.orderInvertsSpec.post enc Try.prog Try.f12 false true false false) := by
  refine returnsInHanded_of_change (C := Try.checked) own started (by kernel_rfl) Try.func12
    (ChangeSpec.witness6 (enc := enc) (C := Try.checked) false ⟨#[], #[.slice none 0 0], []⟩ 8 (by kernel_rfl) (by kernel_rfl) (by kernel_rfl) (by kernel_rfl)) ?_
  intro W base args ds gs before hval hW _ _
  exact contract H enc W base args ds gs before hval hW
theorem f_inPlace : (Rows.orderInvertsRow.inPlace == Try.prog.inPlace 12) = true := by kernel_rfl
theorem f_unfollowed : (Rows.orderInvertsRow.unfollowed == Try.prog.unfollowed 12) = true := by kernel_rfl
theorem f_recurses : (Rows.orderInvertsRow.recurses == Try.prog.recurses 12) = true := by kernel_rfl
theorem f_named : (Rows.orderInvertsRow.named == Try.prog.varsNamed 12) = true := by kernel_rfl
theorem facts : joinedFacts Try.prog 12 Try.f12 Rows.orderInvertsSpec Rows.orderInvertsRow = true := by
  unfold joinedFacts
  exact and_t (and_t (and_t (and_t (and_t (and_t (and_t (and_t (and_t (and_t (and_t (and_t (and_t (and_t (and_t (and_t (and_t (and_t (and_t (and_t (and_t (and_t (and_t (and_t (and_t (and_t (and_t (and_t (and_t (and_t (and_t ((by kernel_rfl)) f_laid) (by kernel_rfl)) (by kernel_rfl)) (by kernel_rfl)) (by kernel_rfl)) (by kernel_rfl)) (by kernel_rfl)) (by kernel_rfl)) f_inPlace) f_unfollowed) f_recurses) f_named) (by kernel_rfl)) (by kernel_rfl)) (by kernel_rfl)) (by kernel_rfl)) (by kernel_rfl)) (by kernel_rfl)) (by kernel_rfl)) (by kernel_rfl)) (by kernel_rfl)) (by kernel_rfl)) (by kernel_rfl)) f_heard) fact_may) fact_lift) fact_make) (by kernel_rfl)) (by kernel_rfl)) (by kernel_rfl)) (by kernel_rfl)
theorem proved : Rows.OrderInvertsSaid :=
  OpenClaim.holds_of_wide 12 Try.f12 rfl rfl rfl rfl rfl rfl rfl ⟨rfl, rfl, rfl, rfl, rfl⟩ rfl rfl rfl rfl rfl (by kernel_rfl) Try.func12 facts
    (of_decide_eq_true (by kernel_rfl)) (by unfold Func.isWrapper; first | (rw [if_pos (by decide +kernel)]; kernel_rfl) | (rw [if_neg (by decide +kernel)]; exact ⟨rfl, rfl⟩))
    (fun os started H enc _ => lifted os started H enc)
end Go.Proofs.Ytiamkdpljeemkaa.orderInverts
