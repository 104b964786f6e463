/- the law at all orders Conditions: none. -/
import Derived.Test.YtiamkdpljeemkaaRowD
import Derived.Test.YtiamkdpljeemkaaLw35
import Derived.Test.YtiamkdpljeemkaaKLOrderPairs
import Derived.Test.YtiamkdpljeemkaaFactA
/- the law at all orders Conditions: none. -/
namespace Go.Proofs.Ytiamkdpljeemkaa.orderPairs
open Go.Gg Go.ChangeShapes Go.WideShapes Go.ChangeAt Go.RowKit
theorem main {x0 : List Int} {x1 : List Int} {x2 : Int} (_o0 : (okL (fun n : Int => IntKind.i64.min ≤ n ∧ n ≤ IntKind.i64.max)) x0) (_o1 : (okL (fun n : Int => IntKind.i64.min ≤ n ∧ n ≤ IntKind.i64.max)) x1) (_o2 : (fun n : Int => IntKind.i64.min ≤ n ∧ n ≤ IntKind.i64.max) x2) : Ctr Try.prog 14 [eL (AV.int .i64) x0, eL (AV.int .i64) x1, AV.int .i64 x2] S0 (fun v _ => v = .bool true) :=
  law14_OrderPairs_ctr (Q := fun r => r = true) (law14_OrderPairs_s rfl) (fun r h => by rw [h])
set_option maxRecDepth 100000 in
theorem contract (H : Type) (enc : TypeId × Value → H) (W : World) (base : Nat) (args : Array Value) (ds gs : List (DataW H)) (before : List MemPlace)
    (hval : ∀ (j : Nat) t v, Try.f14.params[j]? = some t → args[j]? = some v → Value.okWide Try.prog W .any base t v)
    (hW : DataW.Whole enc Try.prog Try.f14.params.toList Rows.orderPairsSpec.vars false W args.toList ds gs before) :
    Calls Try.prog 14 args W fun e W' => ∃ v, e = .returned v ∧ Rows.orderPairsSpec.post enc Try.prog Try.f14 false true false false W args v W' := by
  have hW' := hW
  obtain ⟨p, q, hA0, hV, rfl, hfz, hnd⟩ := hW
  have hA : DataW.TrodAll enc Try.prog W 0 (fun _ => true) true Try.f14.params.toList args.toList ds p := hA0
  rw [Try.params14] at hA hval
  obtain ⟨v0, vs0, d0, ds0, p0, q0, hargs, rfl, rfl, h0, r0⟩ := trodAll_cons hA
  obtain ⟨v1, vs1, d1, ds1, p1, q1, rfl, rfl, rfl, h1, r1⟩ := trodAll_cons r0
  obtain ⟨v2, vs2, d2, ds2, p2, q2, rfl, rfl, rfl, h2, r2⟩ := trodAll_cons r1
  obtain ⟨rfl, rfl, rfl⟩ := trodAll_nil r2
  obtain rfl : args = #[v0, v1, v2] := by cases args; simp_all
  obtain ⟨rfl, rfl⟩ := trodVars_none hV
  obtain ⟨m0, e0⟩ := h0
  obtain ⟨m1, e1⟩ := h1
  obtain ⟨m2, e2⟩ := h2
  obtain ⟨x0, o0, s0, w0⟩ := rd25 W H enc _ _ _ e0
  obtain ⟨x1, o1, s1, w1⟩ := rd25 W H enc _ _ _ e1
  obtain ⟨x2, o2, s2, w2⟩ := rd3 W H enc _ _ _ e2
  have a0 : VR (gw W) ((eL (AV.int .i64)) x0) v0 := arg_one (hval 0 25 v0 rfl rfl) Try.underlying25 rfl rfl w0
  have a1 : VR (gw W) ((eL (AV.int .i64)) x1) v1 := arg_one (hval 1 25 v1 rfl rfl) Try.underlying25 rfl rfl w1
  have a2 : VR (gw W) ((AV.int .i64) x2) v2 := arg_one (hval 2 3 v2 rfl rfl) Try.underlying3 rfl rfl w2
  refine (law_calls (main o0 o1 o2) (vrs3 a0 a1 a2)).mono fun e W' ⟨he, hb⟩ => ⟨_, he, ?_⟩
  exact law_end (by kernel_rfl) (by rw [Try.params14]; intro t ht; simp at ht; rcases ht with rfl | rfl <;> exact ⟨by kernel_rfl, of_decide_eq_true (by kernel_rfl)⟩) rfl rfl Try.underlying4 hW' rfl hb
set_option maxRecDepth 100000 in
theorem lifted (os : Os) (started : os.Started) (H : Type) (enc : TypeId × Value → H) :
    ReturnsInHanded {} Try.checked os 14 .any (Rows.orderPairsSpec.pre6 enc Try.prog Try.f14 Rows.orderPairsRow.domain false) (Rows.orderPairsSpec.post enc Try.prog Try.f14 false true false false) := by
  refine returnsInHanded_of_change (C := Try.checked) own started (by kernel_rfl) Try.func14
    (ChangeSpec.witness6 (enc := enc) (C := Try.checked) false ⟨#[], #[.slice none 0 0, .slice none 0 0, Value.int .i64 0], []⟩ 8 (by kernel_rfl) (by kernel_rfl) (by kernel_rfl) (by kernel_rfl)) ?_
  intro W base args ds gs before hval hW _ _
  exact contract H enc W base args ds gs before hval hW
theorem f_inPlace : (Rows.orderPairsRow.inPlace == Try.prog.inPlace 14) = true := by kernel_rfl
theorem f_unfollowed : (Rows.orderPairsRow.unfollowed == Try.prog.unfollowed 14) = true := by kernel_rfl
theorem f_recurses : (Rows.orderPairsRow.recurses == Try.prog.recurses 14) = true := by kernel_rfl
theorem f_named : (Rows.orderPairsRow.named == Try.prog.varsNamed 14) = true := by kernel_rfl
theorem facts : joinedFacts Try.prog 14 Try.f14 Rows.orderPairsSpec Rows.orderPairsRow = true := by
  unfold joinedFacts
  exact and_t (and_t (and_t (and_t (and_t (and_t (and_t (and_t (and_t (and_t (and_t (and_t (and_t (and_t (and_t (and_t (and_t (and_t (and_t (and_t (and_t (and_t (and_t (and_t (and_t (and_t (and_t (and_t (and_t (and_t (and_t ((by kernel_rfl)) f_laid) (by kernel_rfl)) (by kernel_rfl)) (by kernel_rfl)) (by kernel_rfl)) (by kernel_rfl)) (by kernel_rfl)) (by kernel_rfl)) f_inPlace) f_unfollowed) f_recurses) f_named) (by kernel_rfl)) (by kernel_rfl)) (by kernel_rfl)) (by kernel_rfl)) (by kernel_rfl)) (by kernel_rfl)) (by kernel_rfl)) (by kernel_rfl)) (by kernel_rfl)) (by kernel_rfl)) (by kernel_rfl)) f_heard) fact_may) fact_lift) fact_make) (by kernel_rfl)) (by kernel_rfl)) (by kernel_rfl)) (by kernel_rfl)
theorem proved : Rows.OrderPairsSaid :=
  OpenClaim.holds_of_wide 14 Try.f14 rfl rfl rfl rfl rfl rfl rfl ⟨rfl, rfl, rfl, rfl, rfl⟩ rfl rfl rfl rfl rfl (by kernel_rfl) Try.func14 facts
    (of_decide_eq_true (by kernel_rfl)) (by unfold Func.isWrapper; first | (rw [if_pos (by decide +kernel)]; kernel_rfl) | (rw [if_neg (by decide +kernel)]; exact ⟨rfl, rfl⟩))
    (fun os started H enc _ => lifted os started H enc)
end Go.Proofs.Ytiamkdpljeemkaa.orderPairs
