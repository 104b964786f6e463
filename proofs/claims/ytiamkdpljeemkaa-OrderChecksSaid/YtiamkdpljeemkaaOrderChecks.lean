/- the law at all orders Conditions: none. -/
import Derived.Test.YtiamkdpljeemkaaRowD
import Derived.Test.YtiamkdpljeemkaaLw31
import Derived.Test.YtiamkdpljeemkaaKLOrderChecks
import Derived.Test.YtiamkdpljeemkaaFactA
/- the law at all orders Conditions: none. -/
namespace Go.Proofs.Ytiamkdpljeemkaa.orderChecks
open Go.Gg Go.ChangeShapes Go.WideShapes Go.ChangeAt Go.RowKit
theorem main {x0 : List Int} {x1 : Int} (_o0 : (okL (fun n : Int => IntKind.i64.min ≤ n ∧ n ≤ IntKind.i64.max)) x0) (_o1 : (fun n : Int => IntKind.i64.min ≤ n ∧ n ≤ IntKind.i64.max) x1) : Ctr Try.prog 11 [eL (AV.int .i64) x0, AV.int .i64 x1] S0 (fun v _ => v = .bool true) :=
  law14_OrderChecks_ctr (Q := fun r => r = true) (law14_OrderChecks_s rfl) (fun r h => by rw [h])
set_option maxRecDepth 100000 in
theorem contract (H : Type) (enc : TypeId × Value → H) (W : World) (base : Nat) (args : Array Value) (ds gs : List (DataW H)) (before : List MemPlace)
    (hval : ∀ (j : Nat) t v, Try.f11.params[j]? = some t → args[j]? = some v → Value.okWide Try.prog W .any base t v)
    (hW : DataW.Whole enc Try.prog Try.f11.params.toList Rows.orderChecksSpec.vars false W args.toList ds gs before) :
    Calls Try.prog 11 args W fun e W' => ∃ v, e = .returned v ∧ Rows.orderChecksSpec.post enc Try.prog Try.f11 false true false false W args v W' := by
  have hW' := hW
  obtain ⟨p, q, hA0, hV, rfl, hfz, hnd⟩ := hW
  have hA : DataW.TrodAll enc Try.prog W 0 (fun _ => true) true Try.f11.params.toList args.toList ds p := hA0
  rw [Try.params11] at hA hval
  obtain ⟨v0, vs0, d0, ds0, p0, q0, hargs, rfl, rfl, h0, r0⟩ := trodAll_cons hA
  obtain ⟨v1, vs1, d1, ds1, p1, q1, rfl, rfl, rfl, h1, r1⟩ := trodAll_cons r0
  obtain ⟨rfl, rfl, rfl⟩ := trodAll_nil r1
  obtain rfl : args = #[v0, v1] := by cases args; simp_all
  obtain ⟨rfl, rfl⟩ := trodVars_none hV
  obtain ⟨m0, e0⟩ := h0
  obtain ⟨m1, e1⟩ := h1
  obtain ⟨x0, o0, s0, w0⟩ := rd25 W H enc _ _ _ e0
  obtain ⟨x1, o1, s1, w1⟩ := rd3 W H enc _ _ _ e1
  have a0 : VR (gw W) ((eL (AV.int .i64)) x0) v0 := arg_one (hval 0 25 v0 rfl rfl) Try.underlying25 rfl rfl w0
  have a1 : VR (gw W) ((AV.int .i64) x1) v1 := arg_one (hval 1 3 v1 rfl rfl) Try.underlying3 rfl rfl w1
  refine (law_calls (main o0 o1) (vrs2 a0 a1)).mono fun e W' ⟨he, hb⟩ => ⟨_, he, ?_⟩
  exact law_end (by kernel_rfl) (by rw [Try.params11]; intro t ht; simp at ht; rcases ht with rfl | rfl <;> exact ⟨by kernel_rfl, of_decide_eq_true (by kernel_rfl)⟩) rfl rfl Try.underlying4 hW' rfl hb
set_option maxRecDepth 100000 in
theorem lifted (os : Os) (started : os.Started) (H : Type) (enc : TypeId × Value → H) :
    ReturnsInHanded {} Try.checked os 11 .any (Rows.orderChecksSpec.pre6 enc Try.prog Try.f11 Rows.orderChecksRow.domain false) (Rows.orderChecksSpec.post enc Try.prog Try.f11 false true false false) := by
  refine returnsInHanded_of_change (C := Try.checked) own started (by kernel_rfl) Try.func11
    (ChangeSpec.witness6 (enc := enc) (C := Try.checked) false ⟨#[], #[.slice none 0 0, Value.int .i64 0], []⟩ 8 (by kernel_rfl) (by kernel_rfl) (by kernel_rfl) (by kernel_rfl)) ?_
  intro W base args ds gs before hval hW _ _
  exact contract H enc W base args ds gs before hval hW
theorem f_inPlace : (Rows.orderChecksRow.inPlace == Try.prog.inPlace 11) = true := by kernel_rfl
theorem f_unfollowed : (Rows.orderChecksRow.unfollowed == Try.prog.unfollowed 11) = true := by kernel_rfl
theorem f_recurses : (Rows.orderChecksRow.recurses == Try.prog.recurses 11) = true := by kernel_rfl
theorem f_named : (Rows.orderChecksRow.named == Try.prog.varsNamed 11) = true := by kernel_rfl
theorem facts : joinedFacts Try.prog 11 Try.f11 Rows.orderChecksSpec Rows.orderChecksRow = true := by
  unfold joinedFacts
  exact and_t (and_t (and_t (and_t (and_t (and_t (and_t (and_t (and_t (and_t (and_t (and_t (and_t (and_t (and_t (and_t (and_t (and_t (and_t (and_t (and_t (and_t (and_t (and_t (and_t (and_t (and_t (and_t (and_t (and_t (and_t ((by kernel_rfl)) f_laid) (by kernel_rfl)) (by kernel_rfl)) (by kernel_rfl)) (by kernel_rfl)) (by kernel_rfl)) (by kernel_rfl)) (by kernel_rfl)) f_inPlace) f_unfollowed) f_recurses) f_named) (by kernel_rfl)) (by kernel_rfl)) (by kernel_rfl)) (by kernel_rfl)) (by kernel_rfl)) (by kernel_rfl)) (by kernel_rfl)) (by kernel_rfl)) (by kernel_rfl)) (by kernel_rfl)) (by kernel_rfl)) f_heard) fact_may) fact_lift) fact_make) (by kernel_rfl)) (by kernel_rfl)) (by kernel_rfl)) (by kernel_rfl)
theorem proved : Rows.OrderChecksSaid :=
  OpenClaim.holds_of_wide 11 Try.f11 rfl rfl rfl rfl rfl rfl rfl ⟨rfl, rfl, rfl, rfl, rfl⟩ rfl rfl rfl rfl rfl (by kernel_rfl) Try.func11 facts
    (of_decide_eq_true (by kernel_rfl)) (by unfold Func.isWrapper; first | (rw [if_pos (by decide +kernel)]; kernel_rfl) | (rw [if_neg (by decide +kernel)]; exact ⟨rfl, rfl⟩))
    (fun os started H enc _ => lifted os started H enc)
end Go.Proofs.Ytiamkdpljeemkaa.orderChecks
