/- What is proved: the statement WholeCutsUptoSaid of the law WholeCuts: five ways give one list of cut sets. Conditions: none. -/
import Derived.Test.YtbnjpdocceckeaaGreatRowF
import Derived.Test.YtbnjpdocceckeaaGreatLwC
import Derived.Test.YtbnjpdocceckeaaGreatKLWholeCuts
import Derived.Test.YtbnjpdocceckeaaGreatFactA
set_option linter.all false
namespace Go.Proofs.YtbnjpdocceckeaaGreat.wholeCuts
open Go.Gg Go.ChangeShapes Go.WideShapes Go.ChangeAt Go.RowKit
theorem main {x0:GFormula} (o0:Au x0) (s0:pz x0<=1048576):Ctr Tryz.prog 3 [aD x0] S0 (λv _=>v = .bool true):=
 tH (Q:=λr=>r=true) (wn o0.2.2 o0.2.1.1 (Lc s0) rfl) (λr h=>by rw[h])
set_option maxRecDepth 100000 in
theorem contract (H:Type) (enc:TypeId×Value->H) (W:World) (base:Nat) (args:Array Value) (ds gs:List (DataW H)) (before:List MemPlace)
  (hval:∀(j:Nat) t v,Tryz.f3.params[j]? = some t->args[j]? = some v->Value.okWide Tryz.prog W .any base t v)
  (hW:DataW.Whole enc Tryz.prog Tryz.f3.params.toList Rows.wholeCutsSpec.vars false W args.toList ds gs before) (hk:Rows.uptoSmall H (ds++gs)=true) :
  Calls Tryz.prog 3 args W λe W'=>∃v,e = .returned v/\Rows.wholeCutsSpec.post enc Tryz.prog Tryz.f3 false true false false W args v W':=by
 have hW':=hW
 obtain⟨p,q,hA0,hV,rfl,hfz,hnd⟩:=hW
 have hA:DataW.TrodAll enc Tryz.prog W 0 (λ_=>true) true Tryz.f3.params.toList args.toList ds p:=hA0
 rw[Tryz.params3] at hA hval
 obtain⟨v0,vs0,d0,ds0,p0,q0,hargs,rfl,rfl,h0,r0⟩:=trodAll_cons hA
 obtain⟨rfl,rfl,rfl⟩:=trodAll_nil r0
 obtain rfl:args = #[v0]:=by cases args;simp_all
 obtain⟨rfl,rfl⟩:=trodVars_none hV
 obtain⟨m0,e0⟩:=h0
 obtain⟨x0,o0,s0,w0⟩:=Pp W H enc _ _ _ e0
 have a0:VR (gw W) (aD x0) v0:=Ld (hval 0 24 v0 rfl rfl) Tryz.underlying24 w0
 have hb:Rows.uptoBulkAll (H:=H) _<=1048576:=of_decide_eq_true hk
 simp only[Rows.uptoBulkAll,List.cons_append,List.nil_append] at hb
 dsimp only at s0
 refine(GH (main o0 om) (Ph a0)).mono λe W' ⟨he,hb⟩=>⟨_,he,?_⟩
 exact KS (by kernel_rfl) (by rw[Tryz.params3];intro t ht;simp at ht;rcases ht with rfl<;>exact⟨by kernel_rfl,of_decide_eq_true (by kernel_rfl)⟩) rfl rfl Tryz.underlying4 hW' rfl hb
set_option maxRecDepth 100000 in
theorem lifted (os:Os) (started:os.Started) (H:Type) (enc:TypeId×Value->H) (F:Stop.Interp) :
  ReturnsInHanded {} Tryz.checked os 3 .any ((Rows.OpenSpec.upto Rows.wholeCutsSpec).pre6 enc Tryz.prog Tryz.f3 Rows.wholeCutsUptoRow.domain false) (((Rows.OpenSpec.upto Rows.wholeCutsSpec).at F).post enc Tryz.prog Tryz.f3 false true false false):=by
 refine returnsInHanded_of_cond (C:=Tryz.checked) (s:=Rows.OpenSpec.upto Rows.wholeCutsSpec) (k:=Rows.uptoSmall) rfl own started (by kernel_rfl) Tryz.func3
  (OpenSpec.witness (enc:=enc) (C:=Tryz.checked) (s:=Rows.OpenSpec.upto Rows.wholeCutsSpec) (k:=Rows.uptoSmall) rfl false ⟨#[],#[.agg #[Value.int .i64 0,.slice none 0 0,Value.int .i64 0]],[]⟩ 8 (by kernel_rfl) (by kernel_rfl) (by kernel_rfl)
   (x:=([.agg [.lit (.int .i64 0),.nil,.lit (.int .i64 0)]],[],[])) (by kernel_rfl) rfl (by kernel_rfl)) ?_
 intro W base args ds gs before hval hW _ hk _
 exact contract H enc W base args ds gs before hval hW hk
theorem proved:Rows.WholeCutsUptoSaid:=
 OpenClaim.holds_of_cond 3 Tryz.f3 rfl rfl rfl rfl rfl rfl rfl ⟨rfl,rfl,rfl,rfl,rfl⟩ rfl rfl rfl rfl rfl (by kernel_rfl) Tryz.func3 (by kernel_rfl)
  (of_decide_eq_true (by kernel_rfl)) (by unfold Func.isWrapper;first | (rw[if_pos (by decide +kernel)];kernel_rfl) | (rw[if_neg (by decide +kernel)];exact⟨rfl,rfl⟩))
  (λos started H enc _ F=>lifted os started H enc F)
end Go.Proofs.YtbnjpdocceckeaaGreat.wholeCuts
