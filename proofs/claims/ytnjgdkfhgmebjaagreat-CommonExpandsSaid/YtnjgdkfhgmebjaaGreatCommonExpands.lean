/- any formula, probabilities and groups: expanded, or the first error Conditions: none. -/
import Derived.Test.YtnjgdkfhgmebjaaGreatRowD
import Derived.Test.YtnjgdkfhgmebjaaGreatLw46
import Derived.Test.YtnjgdkfhgmebjaaGreatKLCommonExpands
import Derived.Test.YtnjgdkfhgmebjaaGreatFactA
namespace Go.Proofs.YtnjgdkfhgmebjaaGreat.commonExpands
open Go.Gg Go.ChangeShapes Go.WideShapes Go.ChangeAt Go.RowKit
theorem main {x0:GFormula} {x1:GCauses} (o0:qz x0) (o1:sr x1):Ctr Tryz.prog 3 [ay x0,lj x1] S0 (λv _=>v = .bool true):=
  jF (Q:=λr=>r=true) (ke o0.2.2 o1.1.1 (yV o1.1) o1.2.1 (λi hi=>⟨(o1.2.2 _ (tM hi)).2.2.1,yV (o1.2.2 _ (tM hi)).2.2⟩) rfl) (λr h=>by rw[h])
set_option maxRecDepth 100000 in
theorem contract (H:Type) (enc:TypeId×Value->H) (W:World) (base:Nat) (args:Array Value) (ds gs:List (DataW H)) (before:List MemPlace)
    (hval:∀(j:Nat) t v,Tryz.f3.params[j]? = some t->args[j]? = some v->Value.okWide Tryz.prog W .any base t v)
    (hW:DataW.Whole enc Tryz.prog Tryz.f3.params.toList Rows.commonExpandsSpec.vars false W args.toList ds gs before) :
    Calls Tryz.prog 3 args W λe W'=>∃v,e = .returned v/\Rows.commonExpandsSpec.post enc Tryz.prog Tryz.f3 false true false false W args v W':=by
  have hW':=hW
  obtain⟨p,q,hA0,hV,rfl,hfz,hnd⟩:=hW
  have hA:DataW.TrodAll enc Tryz.prog W 0 (λ_=>true) true Tryz.f3.params.toList args.toList ds p:=hA0
  rw[Tryz.params3] at hA hval
  obtain⟨v0,vs0,d0,ds0,p0,q0,hargs,rfl,rfl,h0,r0⟩:=trodAll_cons hA
  obtain⟨v1,vs1,d1,ds1,p1,q1,rfl,rfl,rfl,h1,r1⟩:=trodAll_cons r0
  obtain⟨rfl,rfl,rfl⟩:=trodAll_nil r1
  obtain rfl:args = #[v0,v1]:=by cases args;simp_all
  obtain⟨rfl,rfl⟩:=trodVars_none hV
  obtain⟨m0,e0⟩:=h0
  obtain⟨m1,e1⟩:=h1
  obtain⟨x0,o0,s0,w0⟩:=zj W H enc _ _ _ e0
  obtain⟨x1,o1,s1,w1⟩:=zh W H enc _ _ _ e1
  have a0:VR (gw W) (ay x0) v0:=um (hval 0 24 v0 rfl rfl) Tryz.underlying24 w0
  have a1:VR (gw W) (lj x1) v1:=um (hval 1 28 v1 rfl rfl) Tryz.underlying28 w1
  refine(uQ (main o0 o1) (zd a0 a1)).mono λe W' ⟨he,hb⟩=>⟨_,he,?_⟩
  exact xp (by kernel_rfl) (by rw[Tryz.params3];intro t ht;simp at ht;rcases ht with rfl | rfl<;>exact⟨by kernel_rfl,of_decide_eq_true (by kernel_rfl)⟩) rfl rfl Tryz.underlying4 hW' rfl hb
set_option maxRecDepth 100000 in
theorem lifted (os:Os) (started:os.Started) (H:Type) (enc:TypeId×Value->H) :
    ReturnsInHanded {} Tryz.checked os 3 .any (Rows.commonExpandsSpec.pre6 enc Tryz.prog Tryz.f3 Rows.commonExpandsRow.domain false) (Rows.commonExpandsSpec.post enc Tryz.prog Tryz.f3 false true false false):=by
  refine returnsInHanded_of_change (C:=Tryz.checked) own started (by kernel_rfl) Tryz.func3
    (ChangeSpec.witness6 (enc:=enc) (C:=Tryz.checked) false ⟨#[],#[.agg #[Value.int .i64 0,.slice none 0 0,Value.int .i64 0],.agg #[.slice none 0 0,.slice none 0 0]],[]⟩ 8 (by kernel_rfl) (by kernel_rfl) (by kernel_rfl) (by kernel_rfl)) ?_
  intro W base args ds gs before hval hW _ _
  exact contract H enc W base args ds gs before hval hW
theorem f_inPlace:(Rows.commonExpandsRow.inPlace == Tryz.prog.inPlace 3)=true:=by kernel_rfl
theorem f_unfollowed:(Rows.commonExpandsRow.unfollowed == Tryz.prog.unfollowed 3)=true:=by kernel_rfl
theorem f_recurses:(Rows.commonExpandsRow.recurses == Tryz.prog.recurses 3)=true:=by kernel_rfl
theorem f_named:(Rows.commonExpandsRow.named == Tryz.prog.varsNamed 3)=true:=by kernel_rfl
theorem facts:joinedFacts Tryz.prog 3 Tryz.f3 Rows.commonExpandsSpec Rows.commonExpandsRow=true:=by
  unfold joinedFacts
  exact dl (dl (dl (dl (dl (dl (dl (dl (dl (dl (dl (dl (dl (dl (dl (dl (dl (dl (dl (dl (dl (dl (dl (dl (dl (dl (dl (dl (dl (dl (dl ((by kernel_rfl)) yq) (by kernel_rfl)) (by kernel_rfl)) (by kernel_rfl)) (by kernel_rfl)) (by kernel_rfl)) (by kernel_rfl)) (by kernel_rfl)) f_inPlace) f_unfollowed) f_recurses) f_named) (by kernel_rfl)) (by kernel_rfl)) (by kernel_rfl)) (by kernel_rfl)) (by kernel_rfl)) (by kernel_rfl)) (by kernel_rfl)) (by kernel_rfl)) (by kernel_rfl)) (by kernel_rfl)) (by kernel_rfl)) xw) fact_may) fact_lift) fact_make) (by kernel_rfl)) (by kernel_rfl)) (by kernel_rfl)) (by kernel_rfl)
theorem proved:Rows.CommonExpandsSaid:=
  OpenClaim.holds_of_wide 3 Tryz.f3 rfl rfl rfl rfl rfl rfl rfl ⟨rfl,rfl,rfl,rfl,rfl⟩ rfl rfl rfl rfl rfl (by kernel_rfl) Tryz.func3 facts
    (of_decide_eq_true (by kernel_rfl)) (by unfold Func.isWrapper;first | (rw[if_pos (by decide +kernel)];kernel_rfl) | (rw[if_neg (by decide +kernel)];exact⟨rfl,rfl⟩))
    (λos started H enc _=>lifted os started H enc)
end Go.Proofs.YtnjgdkfhgmebjaaGreat.commonExpands
