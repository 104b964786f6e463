/- halving a phase does not change the probability that a coherent mission fails Conditions: none. -/
import Derived.Test.YtcmagbhiioheeaaGreatRowD
import Derived.Test.YtcmagbhiioheeaaGreatMb
import Derived.Test.YtcmagbhiioheeaaGreatKLMissionSplits
import Derived.Test.YtcmagbhiioheeaaGreatFactA
namespace Go.Proofs.YtcmagbhiioheeaaGreat.missionSplits
open Go.Gg Go.ChangeShapes Go.WideShapes Go.ChangeAt Go.RowKit
theorem main {x0:GMission} {x1:Int} {x2:GRat} (o0:xr x0) (o1:(λn:Int=>IntKind.i64.min<=n/\n<=IntKind.i64.max) x1) (o2:vF x2):Ctr Tryz.prog 3 [az x0,AV.int .i64 x1,aq x2] S0 (λv _=>v = .bool true):=
 nI (Q:=λr=>r=true) (oO ⟨o0.1.1,o0.2.1,λi hi=>(o0.2.2 _ (yH hi)).1,λj hj=>((o0.1.2 _ (yH hj)).2.2),λi hi=>I9 (o0.2.2 _ (yH hi))⟩ (Io o2) rfl) (λr h=>by rw[h])
set_option maxRecDepth 100000 in
theorem contract (H:Type) (enc:TypeId×Value->H) (W:World) (base:Nat) (args:Array Value) (ds gs:List (DataW H)) (before:List MemPlace)
  (hval:∀(j:Nat) t v,Tryz.f3.params[j]? = some t->args[j]? = some v->Value.okWide Tryz.prog W .any base t v)
  (hW:DataW.Whole enc Tryz.prog Tryz.f3.params.toList Rows.missionSplitsSpec.vars false W args.toList ds gs before) :
  Calls Tryz.prog 3 args W λe W'=>∃v,e = .returned v/\Rows.missionSplitsSpec.post enc Tryz.prog Tryz.f3 false true false false W args v W':=by
 have hW':=hW
 obtain⟨p,q,hA0,hV,rfl,hfz,hnd⟩:=hW
 have hA:DataW.TrodAll enc Tryz.prog W 0 (λ_=>true) true Tryz.f3.params.toList args.toList ds p:=hA0
 rw[Tryz.params3] at hA hval
 obtain⟨v0,vs0,d0,ds0,p0,q0,hargs,rfl,rfl,h0,r0⟩:=trodAll_cons hA
 obtain⟨v1,vs1,d1,ds1,p1,q1,rfl,rfl,rfl,h1,r1⟩:=trodAll_cons r0
 obtain⟨v2,vs2,d2,ds2,p2,q2,rfl,rfl,rfl,h2,r2⟩:=trodAll_cons r1
 obtain⟨rfl,rfl,rfl⟩:=trodAll_nil r2
 obtain rfl:args = #[v0,v1,v2]:=by cases args;simp_all
 obtain⟨rfl,rfl⟩:=trodVars_none hV
 obtain⟨m0,e0⟩:=h0
 obtain⟨m1,e1⟩:=h1
 obtain⟨m2,e2⟩:=h2
 obtain⟨x0,o0,s0,w0⟩:=I5 W H enc _ _ _ e0
 obtain⟨x1,o1,s1,w1⟩:=rd3 W H enc _ _ _ e1
 obtain⟨x2,o2,s2,w2⟩:=Ig W H enc _ _ _ e2
 have a0:VR (gw W) (az x0) v0:=Cf (hval 0 25 v0 rfl rfl) Tryz.underlying25 w0
 have a1:VR (gw W) ((AV.int .i64) x1) v1:=Gd (hval 1 3 v1 rfl rfl) Tryz.underlying3 rfl rfl w1
 have a2:VR (gw W) (aq x2) v2:=Cf (hval 2 28 v2 rfl rfl) Tryz.underlying28 w2
 refine(CN (main o0 o1 o2) (IW a0 a1 a2)).mono λe W' ⟨he,hb⟩=>⟨_,he,?_⟩
 exact FSx (by kernel_rfl) (by rw[Tryz.params3];intro t ht;simp at ht;rcases ht with rfl | rfl | rfl<;>exact⟨by kernel_rfl,of_decide_eq_true (by kernel_rfl)⟩) rfl rfl Tryz.underlying4 hW' rfl hb
set_option maxRecDepth 100000 in
theorem lifted (os:Os) (started:os.Started) (H:Type) (enc:TypeId×Value->H) :
  ReturnsInHanded {} Tryz.checked os 3 .any (Rows.missionSplitsSpec.pre6 enc Tryz.prog Tryz.f3 Rows.missionSplitsRow.domain false) (Rows.missionSplitsSpec.post enc Tryz.prog Tryz.f3 false true false false):=by
 refine returnsInHanded_of_change (C:=Tryz.checked) own started (by kernel_rfl) Tryz.func3
  (ChangeSpec.witness6 (enc:=enc) (C:=Tryz.checked) false ⟨#[],#[.agg #[.slice none 0 0,.slice none 0 0],Value.int .i64 0,.agg #[.bool false,.slice none 0 0,.slice none 0 0]],[]⟩ 8 (by kernel_rfl) (by kernel_rfl) (by kernel_rfl) (by kernel_rfl)) ?_
 intro W base args ds gs before hval hW _ _
 exact contract H enc W base args ds gs before hval hW
theorem f_inPlace:(Rows.missionSplitsRow.inPlace == Tryz.prog.inPlace 3)=true:=by kernel_rfl
theorem f_unfollowed:(Rows.missionSplitsRow.unfollowed == Tryz.prog.unfollowed 3)=true:=by kernel_rfl
theorem f_recurses:(Rows.missionSplitsRow.recurses == Tryz.prog.recurses 3)=true:=by kernel_rfl
theorem f_named:(Rows.missionSplitsRow.named == Tryz.prog.varsNamed 3)=true:=by kernel_rfl
theorem facts:joinedFacts Tryz.prog 3 Tryz.f3 Rows.missionSplitsSpec Rows.missionSplitsRow=true:=by
 unfold joinedFacts
 exact fe (fe (fe (fe (fe (fe (fe (fe (fe (fe (fe (fe (fe (fe (fe (fe (fe (fe (fe (fe (fe (fe (fe (fe (fe (fe (fe (fe (fe (fe (fe ((by kernel_rfl)) HI) (by kernel_rfl)) (by kernel_rfl)) (by kernel_rfl)) (by kernel_rfl)) (by kernel_rfl)) (by kernel_rfl)) (by kernel_rfl)) f_inPlace) f_unfollowed) f_recurses) f_named) (by kernel_rfl)) (by kernel_rfl)) (by kernel_rfl)) (by kernel_rfl)) (by kernel_rfl)) (by kernel_rfl)) (by kernel_rfl)) (by kernel_rfl)) (by kernel_rfl)) (by kernel_rfl)) (by kernel_rfl)) FZ) fact_may) fact_lift) fact_make) (by kernel_rfl)) (by kernel_rfl)) (by kernel_rfl)) (by kernel_rfl)
theorem proved:Rows.MissionSplitsSaid:=
 OpenClaim.holds_of_wide 3 Tryz.f3 rfl rfl rfl rfl rfl rfl rfl ⟨rfl,rfl,rfl,rfl,rfl⟩ rfl rfl rfl rfl rfl (by kernel_rfl) Tryz.func3 facts
  (of_decide_eq_true (by kernel_rfl)) (by unfold Func.isWrapper;first | (rw[if_pos (by decide +kernel)];kernel_rfl) | (rw[if_neg (by decide +kernel)];exact⟨rfl,rfl⟩))
  (λos started H enc _=>lifted os started H enc)
end Go.Proofs.YtcmagbhiioheeaaGreat.missionSplits
