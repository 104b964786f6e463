/- without groups a formula stays as it is Conditions: none. -/
import Derived.Test.YtnjgdkfhgmebjaaRowD
import Derived.Test.YtnjgdkfhgmebjaaLw47
import Derived.Test.YtnjgdkfhgmebjaaKLCommonNone
import Derived.Test.YtnjgdkfhgmebjaaFactA
namespace Go.Proofs.Ytnjgdkfhgmebjaa.commonNone
open Go.Gg Go.ChangeShapes Go.WideShapes Go.ChangeAt Go.RowKit
theorem main {x0:GFormula} {x1:List GRat} (o0:ov x0) (o1:(okL pM) x1):Ctr Try.prog 3 [aq x0,eL ae x1] S0 (λv _=>v = .bool true):=
  jn (Q:=λr=>r=true) (j8 o0.2.2 o1.1 (xb o1) rfl) (λr h=>by rw[h])
set_option maxRecDepth 100000 in
theorem contract (H:Type) (enc:TypeId×Value->H) (W:World) (base:Nat) (args:Array Value) (ds gs:List (DataW H)) (before:List MemPlace)
    (hval:∀(j:Nat) t v,Try.f3.params[j]? = some t->args[j]? = some v->Value.okWide Try.prog W .any base t v)
    (hW:DataW.Whole enc Try.prog Try.f3.params.toList Rows.commonNoneSpec.vars false W args.toList ds gs before) :
    Calls Try.prog 3 args W λe W'=>∃v,e = .returned v/\Rows.commonNoneSpec.post enc Try.prog Try.f3 false true false false W args v W':=by
  have hW':=hW
  obtain⟨p,q,hA0,hV,rfl,hfz,hnd⟩:=hW
  have hA:DataW.TrodAll enc Try.prog W 0 (λ_=>true) true Try.f3.params.toList args.toList ds p:=hA0
  rw[Try.params3] at hA hval
  obtain⟨v0,vs0,d0,ds0,p0,q0,hargs,rfl,rfl,h0,r0⟩:=trodAll_cons hA
  obtain⟨v1,vs1,d1,ds1,p1,q1,rfl,rfl,rfl,h1,r1⟩:=trodAll_cons r0
  obtain⟨rfl,rfl,rfl⟩:=trodAll_nil r1
  obtain rfl:args = #[v0,v1]:=by cases args;simp_all
  obtain⟨rfl,rfl⟩:=trodVars_none hV
  obtain⟨m0,e0⟩:=h0
  obtain⟨m1,e1⟩:=h1
  obtain⟨x0,o0,s0,w0⟩:=w6 W H enc _ _ _ e0
  obtain⟨x1,o1,s1,w1⟩:=w5 W H enc _ _ _ e1
  have a0:VR (gw W) (aq x0) v0:=uU (hval 0 24 v0 rfl rfl) Try.underlying24 w0
  have a1:VR (gw W) ((eL ae) x1) v1:=uT (hval 1 25 v1 rfl rfl) Try.underlying25 rfl rfl w1
  refine(sa (main o0 o1) (wU a0 a1)).mono λe W' ⟨he,hb⟩=>⟨_,he,?_⟩
  exact uL (by kernel_rfl) (by rw[Try.params3];intro t ht;simp at ht;rcases ht with rfl | rfl<;>exact⟨by kernel_rfl,of_decide_eq_true (by kernel_rfl)⟩) rfl rfl Try.underlying4 hW' rfl hb
set_option maxRecDepth 100000 in
theorem lifted (os:Os) (started:os.Started) (H:Type) (enc:TypeId×Value->H) :
    ReturnsInHanded {} Try.checked os 3 .any (Rows.commonNoneSpec.pre6 enc Try.prog Try.f3 Rows.commonNoneRow.domain false) (Rows.commonNoneSpec.post enc Try.prog Try.f3 false true false false):=by
  refine returnsInHanded_of_change (C:=Try.checked) own started (by kernel_rfl) Try.func3
    (ChangeSpec.witness6 (enc:=enc) (C:=Try.checked) false ⟨#[],#[.agg #[Value.int .i64 0,.slice none 0 0,Value.int .i64 0],.slice none 0 0],[]⟩ 8 (by kernel_rfl) (by kernel_rfl) (by kernel_rfl) (by kernel_rfl)) ?_
  intro W base args ds gs before hval hW _ _
  exact contract H enc W base args ds gs before hval hW
theorem f_inPlace:(Rows.commonNoneRow.inPlace == Try.prog.inPlace 3)=true:=by kernel_rfl
theorem f_unfollowed:(Rows.commonNoneRow.unfollowed == Try.prog.unfollowed 3)=true:=by kernel_rfl
theorem f_recurses:(Rows.commonNoneRow.recurses == Try.prog.recurses 3)=true:=by kernel_rfl
theorem f_named:(Rows.commonNoneRow.named == Try.prog.varsNamed 3)=true:=by kernel_rfl
theorem facts:joinedFacts Try.prog 3 Try.f3 Rows.commonNoneSpec Rows.commonNoneRow=true:=by
  unfold joinedFacts
  exact cP (cP (cP (cP (cP (cP (cP (cP (cP (cP (cP (cP (cP (cP (cP (cP (cP (cP (cP (cP (cP (cP (cP (cP (cP (cP (cP (cP (cP (cP (cP ((by kernel_rfl)) wb) (by kernel_rfl)) (by kernel_rfl)) (by kernel_rfl)) (by kernel_rfl)) (by kernel_rfl)) (by kernel_rfl)) (by kernel_rfl)) f_inPlace) f_unfollowed) f_recurses) f_named) (by kernel_rfl)) (by kernel_rfl)) (by kernel_rfl)) (by kernel_rfl)) (by kernel_rfl)) (by kernel_rfl)) (by kernel_rfl)) (by kernel_rfl)) (by kernel_rfl)) (by kernel_rfl)) (by kernel_rfl)) uP) fact_may) fact_lift) fact_make) (by kernel_rfl)) (by kernel_rfl)) (by kernel_rfl)) (by kernel_rfl)
theorem proved:Rows.CommonNoneSaid:=
  OpenClaim.holds_of_wide 3 Try.f3 rfl rfl rfl rfl rfl rfl rfl ⟨rfl,rfl,rfl,rfl,rfl⟩ rfl rfl rfl rfl rfl (by kernel_rfl) Try.func3 facts
    (of_decide_eq_true (by kernel_rfl)) (by unfold Func.isWrapper;first | (rw[if_pos (by decide +kernel)];kernel_rfl) | (rw[if_neg (by decide +kernel)];exact⟨rfl,rfl⟩))
    (λos started H enc _=>lifted os started H enc)
end Go.Proofs.Ytnjgdkfhgmebjaa.commonNone
