/- what an expanded formula is worth Conditions: none. -/
import Derived.Test.YtnjgdkfhgmebjaaGreatRowD
import Derived.Test.YtnjgdkfhgmebjaaGreatLw48
import Derived.Test.YtnjgdkfhgmebjaaGreatKLCommonStrikes
import Derived.Test.YtnjgdkfhgmebjaaGreatFactA
namespace Go.Proofs.YtnjgdkfhgmebjaaGreat.commonStrikes
open Go.Gg Go.ChangeShapes Go.WideShapes Go.ChangeAt Go.RowKit
theorem main {x0:GFormula} {x1:GCauses} {x2:Int} (o0:q8 x0) (o1:tc x1) (o2:(λn:Int=>IntKind.i64.min<=n/\n<=IntKind.i64.max) x2):Ctr Tryz.prog 4 [aA x0,lB x1,AV.int .i64 x2] S0 (λv _=>v = .bool true):=
  jS (Q:=λr=>r=true) (kB o0.2.2 o2 o1.1.1 (zR o1.1) o1.2.1 (λi hi=>⟨(o1.2.2 _ (ur hi)).2.2.1,zR (o1.2.2 _ (ur hi)).2.2⟩) rfl) (λr h=>by rw[h])
set_option maxRecDepth 100000 in
theorem contract (H:Type) (enc:TypeId×Value->H) (W:World) (base:Nat) (args:Array Value) (ds gs:List (DataW H)) (before:List MemPlace)
    (hval:∀(j:Nat) t v,Tryz.f4.params[j]? = some t->args[j]? = some v->Value.okWide Tryz.prog W .any base t v)
    (hW:DataW.Whole enc Tryz.prog Tryz.f4.params.toList Rows.commonStrikesSpec.vars false W args.toList ds gs before) :
    Calls Tryz.prog 4 args W λe W'=>∃v,e = .returned v/\Rows.commonStrikesSpec.post enc Tryz.prog Tryz.f4 false true false false W args v W':=by
  have hW':=hW
  obtain⟨p,q,hA0,hV,rfl,hfz,hnd⟩:=hW
  have hA:DataW.TrodAll enc Tryz.prog W 0 (λ_=>true) true Tryz.f4.params.toList args.toList ds p:=hA0
  rw[Tryz.params4] at hA hval
  obtain⟨v0,vs0,d0,ds0,p0,q0,hargs,rfl,rfl,h0,r0⟩:=trodAll_cons hA
  obtain⟨v1,vs1,d1,ds1,p1,q1,rfl,rfl,rfl,h1,r1⟩:=trodAll_cons r0
  obtain⟨v2,vs2,d2,ds2,p2,q2,rfl,rfl,rfl,h2,r2⟩:=trodAll_cons r1
  obtain⟨rfl,rfl,rfl⟩:=trodAll_nil r2
  obtain rfl:args = #[v0,v1,v2]:=by cases args;simp_all
  obtain⟨rfl,rfl⟩:=trodVars_none hV
  obtain⟨m0,e0⟩:=h0
  obtain⟨m1,e1⟩:=h1
  obtain⟨m2,e2⟩:=h2
  obtain⟨x0,o0,s0,w0⟩:=Ac W H enc _ _ _ e0
  obtain⟨x1,o1,s1,w1⟩:=Aa W H enc _ _ _ e1
  obtain⟨x2,o2,s2,w2⟩:=rd3 W H enc _ _ _ e2
  have a0:VR (gw W) (aA x0) v0:=vf (hval 0 24 v0 rfl rfl) Tryz.underlying24 w0
  have a1:VR (gw W) (lB x1) v1:=vf (hval 1 28 v1 rfl rfl) Tryz.underlying28 w1
  have a2:VR (gw W) ((AV.int .i64) x2) v2:=yE (hval 2 3 v2 rfl rfl) Tryz.underlying3 rfl rfl w2
  refine(vU (main o0 o1 o2) (z7 a0 a1 a2)).mono λe W' ⟨he,hb⟩=>⟨_,he,?_⟩
  exact yq (by kernel_rfl) (by rw[Tryz.params4];intro t ht;simp at ht;rcases ht with rfl | rfl | rfl<;>exact⟨by kernel_rfl,of_decide_eq_true (by kernel_rfl)⟩) rfl rfl Tryz.underlying4 hW' rfl hb
set_option maxRecDepth 100000 in
theorem lifted (os:Os) (started:os.Started) (H:Type) (enc:TypeId×Value->H) :
    ReturnsInHanded {} Tryz.checked os 4 .any (Rows.commonStrikesSpec.pre6 enc Tryz.prog Tryz.f4 Rows.commonStrikesRow.domain false) (Rows.commonStrikesSpec.post enc Tryz.prog Tryz.f4 false true false false):=by
  refine returnsInHanded_of_change (C:=Tryz.checked) own started (by kernel_rfl) Tryz.func4
    (ChangeSpec.witness6 (enc:=enc) (C:=Tryz.checked) false ⟨#[],#[.agg #[Value.int .i64 0,.slice none 0 0,Value.int .i64 0],.agg #[.slice none 0 0,.slice none 0 0],Value.int .i64 0],[]⟩ 8 (by kernel_rfl) (by kernel_rfl) (by kernel_rfl) (by kernel_rfl)) ?_
  intro W base args ds gs before hval hW _ _
  exact contract H enc W base args ds gs before hval hW
theorem f_inPlace:(Rows.commonStrikesRow.inPlace == Tryz.prog.inPlace 4)=true:=by kernel_rfl
theorem f_unfollowed:(Rows.commonStrikesRow.unfollowed == Tryz.prog.unfollowed 4)=true:=by kernel_rfl
theorem f_recurses:(Rows.commonStrikesRow.recurses == Tryz.prog.recurses 4)=true:=by kernel_rfl
theorem f_named:(Rows.commonStrikesRow.named == Tryz.prog.varsNamed 4)=true:=by kernel_rfl
theorem facts:joinedFacts Tryz.prog 4 Tryz.f4 Rows.commonStrikesSpec Rows.commonStrikesRow=true:=by
  unfold joinedFacts
  exact dd (dd (dd (dd (dd (dd (dd (dd (dd (dd (dd (dd (dd (dd (dd (dd (dd (dd (dd (dd (dd (dd (dd (dd (dd (dd (dd (dd (dd (dd (dd ((by kernel_rfl)) zp) (by kernel_rfl)) (by kernel_rfl)) (by kernel_rfl)) (by kernel_rfl)) (by kernel_rfl)) (by kernel_rfl)) (by kernel_rfl)) f_inPlace) f_unfollowed) f_recurses) f_named) (by kernel_rfl)) (by kernel_rfl)) (by kernel_rfl)) (by kernel_rfl)) (by kernel_rfl)) (by kernel_rfl)) (by kernel_rfl)) (by kernel_rfl)) (by kernel_rfl)) (by kernel_rfl)) (by kernel_rfl)) yx) fact_may) fact_lift) fact_make) (by kernel_rfl)) (by kernel_rfl)) (by kernel_rfl)) (by kernel_rfl)
theorem proved:Rows.CommonStrikesSaid:=
  OpenClaim.holds_of_wide 4 Tryz.f4 rfl rfl rfl rfl rfl rfl rfl ⟨rfl,rfl,rfl,rfl,rfl⟩ rfl rfl rfl rfl rfl (by kernel_rfl) Tryz.func4 facts
    (of_decide_eq_true (by kernel_rfl)) (by unfold Func.isWrapper;first | (rw[if_pos (by decide +kernel)];kernel_rfl) | (rw[if_neg (by decide +kernel)];exact⟨rfl,rfl⟩))
    (λos started H enc _=>lifted os started H enc)
end Go.Proofs.YtnjgdkfhgmebjaaGreat.commonStrikes
