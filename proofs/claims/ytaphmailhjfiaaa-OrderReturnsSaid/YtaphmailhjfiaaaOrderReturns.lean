/- Depth, Weighted and Spread return orders of the formula's events, which do not depend on nodes that Top does not need. Conditions: none. -/
import Derived.Test.YtaphmailhjfiaaaRowD
import Derived.Test.YtaphmailhjfiaaaLw30
import Derived.Test.YtaphmailhjfiaaaKLOrderReturns
import Derived.Test.YtaphmailhjfiaaaFactA
namespace Go.Proofs.Ytaphmailhjfiaaa.orderReturns
open Go.Gg Go.ChangeShapes Go.WideShapes Go.ChangeAt Go.RowKit
theorem main {x0:GFormula} (o0:ny x0):Ctr Try.prog 3 [an x0] S0 (λv _=>v = .bool true):=
  iv (Q:=λr=>r=true) (i9 o0.2.2 rfl) (λr h=>by rw[h])
set_option maxRecDepth 100000 in
theorem contract (H:Type) (enc:TypeId×Value->H) (W:World) (base:Nat) (args:Array Value) (ds gs:List (DataW H)) (before:List MemPlace)
    (hval:∀(j:Nat) t v,Try.f3.params[j]? = some t->args[j]? = some v->Value.okWide Try.prog W .any base t v)
    (hW:DataW.Whole enc Try.prog Try.f3.params.toList Rows.orderReturnsSpec.vars false W args.toList ds gs before) :
    Calls Try.prog 3 args W λe W'=>∃v,e = .returned v/\Rows.orderReturnsSpec.post enc Try.prog Try.f3 false true false false W args v W':=by
  have hW':=hW
  obtain⟨p,q,hA0,hV,rfl,hfz,hnd⟩:=hW
  have hA:DataW.TrodAll enc Try.prog W 0 (λ_=>true) true Try.f3.params.toList args.toList ds p:=hA0
  rw[Try.params3] at hA hval
  obtain⟨v0,vs0,d0,ds0,p0,q0,hargs,rfl,rfl,h0,r0⟩:=trodAll_cons hA
  obtain⟨rfl,rfl,rfl⟩:=trodAll_nil r0
  obtain rfl:args = #[v0]:=by cases args;simp_all
  obtain⟨rfl,rfl⟩:=trodVars_none hV
  obtain⟨m0,e0⟩:=h0
  obtain⟨x0,o0,s0,w0⟩:=wH W H enc _ _ _ e0
  have a0:VR (gw W) (an x0) v0:=uI (hval 0 24 v0 rfl rfl) Try.underlying24 w0
  refine(rF (main o0) (wy a0)).mono λe W' ⟨he,hb⟩=>⟨_,he,?_⟩
  exact uz (by kernel_rfl) (by rw[Try.params3];intro t ht;simp at ht;rcases ht with rfl<;>exact⟨by kernel_rfl,of_decide_eq_true (by kernel_rfl)⟩) rfl rfl Try.underlying4 hW' rfl hb
set_option maxRecDepth 100000 in
theorem lifted (os:Os) (started:os.Started) (H:Type) (enc:TypeId×Value->H) :
    ReturnsInHanded {} Try.checked os 3 .any (Rows.orderReturnsSpec.pre6 enc Try.prog Try.f3 Rows.orderReturnsRow.domain false) (Rows.orderReturnsSpec.post enc Try.prog Try.f3 false true false false):=by
  refine returnsInHanded_of_change (C:=Try.checked) own started (by kernel_rfl) Try.func3
    (ChangeSpec.witness6 (enc:=enc) (C:=Try.checked) false ⟨#[],#[.agg #[Value.int .i64 0,.slice none 0 0,Value.int .i64 0]],[]⟩ 8 (by kernel_rfl) (by kernel_rfl) (by kernel_rfl) (by kernel_rfl)) ?_
  intro W base args ds gs before hval hW _ _
  exact contract H enc W base args ds gs before hval hW
theorem f_inPlace:(Rows.orderReturnsRow.inPlace == Try.prog.inPlace 3)=true:=by kernel_rfl
theorem f_unfollowed:(Rows.orderReturnsRow.unfollowed == Try.prog.unfollowed 3)=true:=by kernel_rfl
theorem f_recurses:(Rows.orderReturnsRow.recurses == Try.prog.recurses 3)=true:=by kernel_rfl
theorem f_named:(Rows.orderReturnsRow.named == Try.prog.varsNamed 3)=true:=by kernel_rfl
theorem facts:joinedFacts Try.prog 3 Try.f3 Rows.orderReturnsSpec Rows.orderReturnsRow=true:=by
  unfold joinedFacts
  exact cO (cO (cO (cO (cO (cO (cO (cO (cO (cO (cO (cO (cO (cO (cO (cO (cO (cO (cO (cO (cO (cO (cO (cO (cO (cO (cO (cO (cO (cO (cO ((by kernel_rfl)) vH) (by kernel_rfl)) (by kernel_rfl)) (by kernel_rfl)) (by kernel_rfl)) (by kernel_rfl)) (by kernel_rfl)) (by kernel_rfl)) f_inPlace) f_unfollowed) f_recurses) f_named) (by kernel_rfl)) (by kernel_rfl)) (by kernel_rfl)) (by kernel_rfl)) (by kernel_rfl)) (by kernel_rfl)) (by kernel_rfl)) (by kernel_rfl)) (by kernel_rfl)) (by kernel_rfl)) (by kernel_rfl)) uE) fact_may) fact_lift) fact_make) (by kernel_rfl)) (by kernel_rfl)) (by kernel_rfl)) (by kernel_rfl)
theorem proved:Rows.OrderReturnsSaid:=
  OpenClaim.holds_of_wide 3 Try.f3 rfl rfl rfl rfl rfl rfl rfl ⟨rfl,rfl,rfl,rfl,rfl⟩ rfl rfl rfl rfl rfl (by kernel_rfl) Try.func3 facts
    (of_decide_eq_true (by kernel_rfl)) (by unfold Func.isWrapper;first | (rw[if_pos (by decide +kernel)];kernel_rfl) | (rw[if_neg (by decide +kernel)];exact⟨rfl,rfl⟩))
    (λos started H enc _=>lifted os started H enc)
end Go.Proofs.Ytaphmailhjfiaaa.orderReturns
