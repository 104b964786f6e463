/- First and Through return what is specified. Conditions: none. -/
import Derived.Test.YtnjgdkfhgmebjaaGreatRowD
import Derived.Test.YtnjgdkfhgmebjaaGreatMb
import Derived.Test.YtnjgdkfhgmebjaaGreatKLMissionFirst
import Derived.Test.YtnjgdkfhgmebjaaGreatFactA
namespace Go.Proofs.YtnjgdkfhgmebjaaGreat.missionFirst
open Go.Gg Go.ChangeShapes Go.WideShapes Go.ChangeAt Go.RowKit
theorem main {x0:GMission} {x1:Int} (o0:wY x0) (_o1:(λn:Int=>IntKind.i64.min<=n/\n<=IntKind.i64.max) x1):Ctr Tryz.prog 9 [ar x0,AV.int .i64 x1] S0 (λv _=>v = .bool true):=
 n0 (Q:=λr=>r=true) (o6 ⟨o0.1.1,o0.2.1,λi hi=>(o0.2.2 _ (yf hi)).1,λj hj=>((o0.1.2 _ (yf hj)).2.2),λi hi=>Ib (o0.2.2 _ (yf hi))⟩ rfl) (λr h=>by rw[h])
set_option maxRecDepth 100000 in
theorem contract (H:Type) (enc:TypeId×Value->H) (W:World) (base:Nat) (args:Array Value) (ds gs:List (DataW H)) (before:List MemPlace)
  (hval:∀(j:Nat) t v,Tryz.f9.params[j]? = some t->args[j]? = some v->Value.okWide Tryz.prog W .any base t v)
  (hW:DataW.Whole enc Tryz.prog Tryz.f9.params.toList Rows.missionFirstSpec.vars false W args.toList ds gs before) :
  Calls Tryz.prog 9 args W λe W'=>∃v,e = .returned v/\Rows.missionFirstSpec.post enc Tryz.prog Tryz.f9 false true false false W args v W':=by
 have hW':=hW
 obtain⟨p,q,hA0,hV,rfl,hfz,hnd⟩:=hW
 have hA:DataW.TrodAll enc Tryz.prog W 0 (λ_=>true) true Tryz.f9.params.toList args.toList ds p:=hA0
 rw[Tryz.params9] at hA hval
 obtain⟨v0,vs0,d0,ds0,p0,q0,hargs,rfl,rfl,h0,r0⟩:=trodAll_cons hA
 obtain⟨v1,vs1,d1,ds1,p1,q1,rfl,rfl,rfl,h1,r1⟩:=trodAll_cons r0
 obtain⟨rfl,rfl,rfl⟩:=trodAll_nil r1
 obtain rfl:args = #[v0,v1]:=by cases args;simp_all
 obtain⟨rfl,rfl⟩:=trodVars_none hV
 obtain⟨m0,e0⟩:=h0
 obtain⟨m1,e1⟩:=h1
 obtain⟨x0,o0,s0,w0⟩:=H2 W H enc _ _ _ e0
 obtain⟨x1,o1,s1,w1⟩:=rd3 W H enc _ _ _ e1
 have a0:VR (gw W) (ar x0) v0:=Fj (hval 0 52 v0 rfl rfl) Tryz.underlying52 w0
 have a1:VR (gw W) ((AV.int .i64) x1) v1:=Fi (hval 1 3 v1 rfl rfl) Tryz.underlying3 rfl rfl w1
 refine(Ci (main o0 o1) (HT a0 a1)).mono λe W' ⟨he,hb⟩=>⟨_,he,?_⟩
 exact EW (by kernel_rfl) (by rw[Tryz.params9];intro t ht;simp at ht;rcases ht with rfl | rfl<;>exact⟨by kernel_rfl,of_decide_eq_true (by kernel_rfl)⟩) rfl rfl Tryz.underlying4 hW' rfl hb
set_option maxRecDepth 100000 in
theorem lifted (os:Os) (started:os.Started) (H:Type) (enc:TypeId×Value->H) :
  ReturnsInHanded {} Tryz.checked os 9 .any (Rows.missionFirstSpec.pre6 enc Tryz.prog Tryz.f9 Rows.missionFirstRow.domain false) (Rows.missionFirstSpec.post enc Tryz.prog Tryz.f9 false true false false):=by
 refine returnsInHanded_of_change (C:=Tryz.checked) own started (by kernel_rfl) Tryz.func9
  (ChangeSpec.witness6 (enc:=enc) (C:=Tryz.checked) false ⟨#[],#[.agg #[.slice none 0 0,.slice none 0 0],Value.int .i64 0],[]⟩ 8 (by kernel_rfl) (by kernel_rfl) (by kernel_rfl) (by kernel_rfl)) ?_
 intro W base args ds gs before hval hW _ _
 exact contract H enc W base args ds gs before hval hW
theorem f_inPlace:(Rows.missionFirstRow.inPlace == Tryz.prog.inPlace 9)=true:=by kernel_rfl
theorem f_unfollowed:(Rows.missionFirstRow.unfollowed == Tryz.prog.unfollowed 9)=true:=by kernel_rfl
theorem f_recurses:(Rows.missionFirstRow.recurses == Tryz.prog.recurses 9)=true:=by kernel_rfl
theorem f_named:(Rows.missionFirstRow.named == Tryz.prog.varsNamed 9)=true:=by kernel_rfl
theorem facts:joinedFacts Tryz.prog 9 Tryz.f9 Rows.missionFirstSpec Rows.missionFirstRow=true:=by
 unfold joinedFacts
 exact eY (eY (eY (eY (eY (eY (eY (eY (eY (eY (eY (eY (eY (eY (eY (eY (eY (eY (eY (eY (eY (eY (eY (eY (eY (eY (eY (eY (eY (eY (eY ((by kernel_rfl)) GI) (by kernel_rfl)) (by kernel_rfl)) (by kernel_rfl)) (by kernel_rfl)) (by kernel_rfl)) (by kernel_rfl)) (by kernel_rfl)) f_inPlace) f_unfollowed) f_recurses) f_named) (by kernel_rfl)) (by kernel_rfl)) (by kernel_rfl)) (by kernel_rfl)) (by kernel_rfl)) (by kernel_rfl)) (by kernel_rfl)) (by kernel_rfl)) (by kernel_rfl)) (by kernel_rfl)) (by kernel_rfl)) E6) fact_may) fact_lift) fact_make) (by kernel_rfl)) (by kernel_rfl)) (by kernel_rfl)) (by kernel_rfl)
theorem proved:Rows.MissionFirstSaid:=
 OpenClaim.holds_of_wide 9 Tryz.f9 rfl rfl rfl rfl rfl rfl rfl ⟨rfl,rfl,rfl,rfl,rfl⟩ rfl rfl rfl rfl rfl (by kernel_rfl) Tryz.func9 facts
  (of_decide_eq_true (by kernel_rfl)) (by unfold Func.isWrapper;first | (rw[if_pos (by decide +kernel)];kernel_rfl) | (rw[if_neg (by decide +kernel)];exact⟨rfl,rfl⟩))
  (λos started H enc _=>lifted os started H enc)
end Go.Proofs.YtnjgdkfhgmebjaaGreat.missionFirst
