/- A mission of one phase fails with the probability of its formula. Conditions: none. -/
import Derived.Test.YtnjgdkfhgmebjaaGreatRowD
import Derived.Test.YtnjgdkfhgmebjaaGreatMb
import Derived.Test.YtnjgdkfhgmebjaaGreatKLMissionPhase
import Derived.Test.YtnjgdkfhgmebjaaGreatFactA
namespace Go.Proofs.YtnjgdkfhgmebjaaGreat.missionPhase
open Go.Gg Go.ChangeShapes Go.WideShapes Go.ChangeAt Go.RowKit
theorem main {x0:GMission} (o0:aCV x0):Ctr Tryz.prog 8 [aK x0] S0 (λv _=>v = .bool true):=
 yN (Q:=λr=>r=true) (aAp ⟨o0.1.1,o0.2.1,λi hi=>(o0.2.2 _ (aBF hi)).1,λj hj=>((o0.1.2 _ (aBF hj)).2.2),λi hi=>aPr (o0.2.2 _ (aBF hi))⟩ rfl) (λr h=>by rw [h])
set_option maxRecDepth 100000 in
theorem contract (H:Type) (enc:TypeId×Value->H) (W:World) (base:Nat) (args:Array Value) (ds gs:List (DataW H)) (before:List MemPlace)
  (hval:∀(j:Nat) t v,Tryz.f8.params[j]? = some t->args[j]? = some v->Value.okWide Tryz.prog W .any base t v)
  (hW:DataW.Whole enc Tryz.prog Tryz.f8.params.toList Rows.missionPhaseSpec.vars false W args.toList ds gs before) :
  Calls Tryz.prog 8 args W λe W'=>∃v,e = .returned v/\Rows.missionPhaseSpec.post enc Tryz.prog Tryz.f8 false true false false W args v W':=by
 have hW':=hW
 obtain ⟨p,q,hA0,hV,rfl,hfz,hnd⟩:=hW
 have hA:DataW.TrodAll enc Tryz.prog W 0 (λ_=>true) true Tryz.f8.params.toList args.toList ds p:=hA0
 rw [Tryz.params8] at hA hval
 obtain ⟨v0,vs0,d0,ds0,p0,q0,hargs,rfl,rfl,h0,r0⟩:=trodAll_cons hA
 obtain ⟨rfl,rfl,rfl⟩:=trodAll_nil r0
 obtain rfl:args = #[v0]:=by cases args;simp_all
 obtain ⟨rfl,rfl⟩:=trodVars_none hV
 obtain ⟨m0,e0⟩:=h0
 obtain ⟨x0,o0,s0,w0⟩:=aPj W H enc _ _ _ e0
 have a0:VR (gw W) (aK x0) v0:=aJU (hval 0 52 v0 rfl rfl) Tryz.underlying52 w0
 refine (aFY (main o0) (aPc a0)).mono λe W' ⟨he,hb⟩=>⟨_,he,?_⟩
 exact aJw (by kernel_rfl) (by rw [Tryz.params8];intro t ht;simp at ht;rcases ht with rfl<;>exact ⟨by kernel_rfl,of_decide_eq_true (by kernel_rfl)⟩) rfl rfl Tryz.underlying4 hW' rfl hb
set_option maxRecDepth 100000 in
theorem lifted (os:Os) (started:os.Started) (H:Type) (enc:TypeId×Value->H) :
  ReturnsInHanded {} Tryz.checked os 8 .any (Rows.missionPhaseSpec.pre6 enc Tryz.prog Tryz.f8 Rows.missionPhaseRow.domain false) (Rows.missionPhaseSpec.post enc Tryz.prog Tryz.f8 false true false false):=by
 refine returnsInHanded_of_change (C:=Tryz.checked) own started (by kernel_rfl) Tryz.func8
  (ChangeSpec.witness6 (enc:=enc) (C:=Tryz.checked) false ⟨#[],#[.agg #[.slice none 0 0,.slice none 0 0]],[]⟩ 8 (by kernel_rfl) (by kernel_rfl) (by kernel_rfl) (by kernel_rfl)) ?_
 intro W base args ds gs before hval hW _ _
 exact contract H enc W base args ds gs before hval hW
theorem f_inPlace:(Rows.missionPhaseRow.inPlace == Tryz.prog.inPlace 8)=true:=by kernel_rfl
theorem f_unfollowed:(Rows.missionPhaseRow.unfollowed == Tryz.prog.unfollowed 8)=true:=by kernel_rfl
theorem f_recurses:(Rows.missionPhaseRow.recurses == Tryz.prog.recurses 8)=true:=by kernel_rfl
theorem f_named:(Rows.missionPhaseRow.named == Tryz.prog.varsNamed 8)=true:=by kernel_rfl
theorem facts:joinedFacts Tryz.prog 8 Tryz.f8 Rows.missionPhaseSpec Rows.missionPhaseRow=true:=by
 unfold joinedFacts
 exact dU (dU (dU (dU (dU (dU (dU (dU (dU (dU (dU (dU (dU (dU (dU (dU (dU (dU (dU (dU (dU (dU (dU (dU (dU (dU (dU (dU (dU (dU (dU ((by kernel_rfl)) aLU) (by kernel_rfl)) (by kernel_rfl)) (by kernel_rfl)) (by kernel_rfl)) (by kernel_rfl)) (by kernel_rfl)) (by kernel_rfl)) f_inPlace) f_unfollowed) f_recurses) f_named) (by kernel_rfl)) (by kernel_rfl)) (by kernel_rfl)) (by kernel_rfl)) (by kernel_rfl)) (by kernel_rfl)) (by kernel_rfl)) (by kernel_rfl)) (by kernel_rfl)) (by kernel_rfl)) (by kernel_rfl)) aJI) fact_may) fact_lift) fact_make) (by kernel_rfl)) (by kernel_rfl)) (by kernel_rfl)) (by kernel_rfl)
theorem proved:Rows.MissionPhaseSaid:=
 OpenClaim.holds_of_wide 8 Tryz.f8 rfl rfl rfl rfl rfl rfl rfl ⟨rfl,rfl,rfl,rfl,rfl⟩ rfl rfl rfl rfl rfl (by kernel_rfl) Tryz.func8 facts
  (of_decide_eq_true (by kernel_rfl)) (by unfold Func.isWrapper;first | (rw [if_pos (by decide +kernel)];kernel_rfl) | (rw [if_neg (by decide +kernel)];exact ⟨rfl,rfl⟩))
  (λos started H enc _=>lifted os started H enc)
end Go.Proofs.YtnjgdkfhgmebjaaGreat.missionPhase
