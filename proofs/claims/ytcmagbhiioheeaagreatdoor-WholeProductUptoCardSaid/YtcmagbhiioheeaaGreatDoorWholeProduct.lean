/- For every formula and rates within the bulk the law WholeProduct returns true and leaves its arguments alone, in the second form, tied to the listed tables. Conditions: none. -/
import Derived.Test.YtcmagbhiioheeaaGreatDoorRowE
import Derived.Test.YtcmagbhiioheeaaGreatDoorMb
import Derived.Test.YtcmagbhiioheeaaGreatDoorLwP
import Derived.Test.YtcmagbhiioheeaaGreatDoorKLWholeProduct
import Derived.Test.YtcmagbhiioheeaaGreatDoorCards
import Derived.Test.YtcmagbhiioheeaaGreatDoorTie
import Derived.Deep.DeepHandedRow
import Derived.Lib.LaidTab
namespace Go.Proofs.YtcmagbhiioheeaaGreatDoor.wholeProduct
open Go.Gg Go.ChangeShapes Go.WideShapes Go.ChangeAt Go.RowKit
theorem main {x0:GFormula} {x1:List GRat} {x2:List GRat} (o0:wU x0) (o1:(okL uR) x1) (o2:(okL uR) x2) (s0:mL x0<=1048576) (s1:(szL qG) x1<=1048576) (s2:(szL qG) x2<=1048576):Ctr Tryz.prog 3 [aI x0,eL af x1,eL af x2] S0 (λv _=>v = .bool true):=
 ou (Q:=λr=>r=true) (pV (λ_ h=>we h) (λ_ hb=>yK o0.2.2 o0.2.1.1 (Jm s0) hb) o0.2.2 (NM o1 s1) (NM o2 s2) rfl) (λr h=>by rw[h])
set_option maxRecDepth 100000 in
theorem contract (H:Type) (enc:TypeId×Value->H) (W:World) (base:Nat) (args:Array Value) (ds gs:List (DataW H)) (before:List MemPlace)
  (hval:∀(j:Nat) t v,Tryz.f3.params[j]? = some t->args[j]? = some v->Value.okWide Tryz.prog W .any base t v)
  (hW:DataW.Whole enc Tryz.prog Tryz.f3.params.toList Rows.wholeProductSpec.vars false W args.toList ds gs before) (hk:Rows.uptoSmall H (ds++gs)=true) :
  Calls Tryz.prog 3 args W λe W'=>∃v,e = .returned v/\Rows.wholeProductSpec.post enc Tryz.prog Tryz.f3 false true false false W args v W':=by
 have hW':=hW
 obtain⟨p,q,hA0,hV,rfl,hfz,hnd⟩:=hW
 have hA:DataW.TrodAll enc Tryz.prog W 0 (λ_=>true) true Tryz.f3.params.toList args.toList ds p:=hA0
 rw[Tryz.params3] at hA hval
 obtain⟨v0,vs0,d0,ds0,p0,q0,hargs,rfl,rfl,h0,r0⟩:=trodAll_cons hA
 obtain⟨v1,vs1,d1,ds1,p1,q1,rfl,rfl,rfl,h1,r1⟩:=trodAll_cons r0
 obtain⟨v2,vs2,d2,ds2,p2,q2,rfl,rfl,rfl,h2,r2⟩:=trodAll_cons r1
 obtain⟨rfl,rfl,rfl⟩:=trodAll_nil r2
 obtain rfl:args = #[v0,v1,v2]:=by cases args;simp_all
 obtain⟨rfl,rfl⟩:=trodVars_none hV
 obtain⟨m0,e0⟩:=h0
 obtain⟨m1,e1⟩:=h1
 obtain⟨m2,e2⟩:=h2
 obtain⟨x0,o0,s0,w0⟩:=abI W H enc _ _ _ e0
 obtain⟨x1,o1,s1,w1⟩:=Xo W H enc _ _ _ e1
 obtain⟨x2,o2,s2,w2⟩:=Xo W H enc _ _ _ e2
 have a0:VR (gw W) (aI x0) v0:=Jn (hval 0 24 v0 rfl rfl) Tryz.underlying24 w0
 have a1:VR (gw W) ((eL af) x1) v1:=Ct (hval 1 25 v1 rfl rfl) Tryz.underlying25 rfl rfl w1
 have a2:VR (gw W) ((eL af) x2) v2:=Ct (hval 2 25 v2 rfl rfl) Tryz.underlying25 rfl rfl w2
 have hb:Rows.uptoBulkAll (H:=H) _<=1048576:=of_decide_eq_true hk
 simp only[Rows.uptoBulkAll,List.cons_append,List.nil_append] at hb
 dsimp only at s0 s1 s2
 refine(Da (main o0 o1 o2 om om om) (abx a0 a1 a2)).mono λe W' ⟨he,hb⟩=>⟨_,he,?_⟩
 exact H7 (by kernel_rfl) (by rw[Tryz.params3];intro t ht;simp at ht;rcases ht with rfl | rfl<;>exact⟨by kernel_rfl,of_decide_eq_true (by kernel_rfl)⟩) rfl rfl Tryz.underlying4 hW' rfl hb
def cellsAs (c:Array Value):Obj->Obj
 | .cells _ t frozen=>.cells c t frozen
 | o=>o
noncomputable def laidWorld (os:Os):World:={ World.holding Tryz.prog os ⟨#[],#[],[]⟩ with heap:=(((World.holding Tryz.prog os ⟨#[],#[],[]⟩).heap.modify 0 (cellsAs ((Go.Pinned.utf8FirstZ.map λ(n:Nat)=>Value.int .u8 (n:Int)).toArray))).modify 1 (cellsAs (#[.int .u8 128,.int .u8 191,.int .u8 160,.int .u8 191,.int .u8 128,.int .u8 159,.int .u8 144,.int .u8 191,.int .u8 128,.int .u8 143,.int .u8 0,.int .u8 0,.int .u8 0,.int .u8 0,.int .u8 0,.int .u8 0,.int .u8 0,.int .u8 0,.int .u8 0,.int .u8 0,.int .u8 0,.int .u8 0,.int .u8 0,.int .u8 0,.int .u8 0,.int .u8 0,.int .u8 0,.int .u8 0,.int .u8 0,.int .u8 0,.int .u8 0,.int .u8 0]))) }
set_option maxRecDepth 100000 in
theorem laid_met (os:Os):laidMet Tryz.prog Rows.wholeProductUptoRow.laid ((laidWorld os).forCall (λ_ _=>0) ⟨#[],#[.agg #[Value.int .i64 0,.slice none 0 0,Value.int .i64 0],.slice none 0 0,.slice none 0 0],[]⟩).memory:=
 laidMet_of_run' 8 (by kernel_rfl) (by kernel_rfl)
theorem reads (os:Os) {H:Type} (enc:TypeId×Value->H):∃places,DataW.whole enc Tryz.prog ((laidWorld os).forCall (λ_ _=>0) ⟨#[],#[.agg #[Value.int .i64 0,.slice none 0 0,Value.int .i64 0],.slice none 0 0,.slice none 0 0],[]⟩).memory Tryz.f3.params.toList Rows.wholeProductSpec.vars false (#[.agg #[Value.int .i64 0,.slice none 0 0,Value.int .i64 0],.slice none 0 0,.slice none 0 0]:Array Value).toList 8=some ([.agg [.lit (.int .i64 0),.nil,.lit (.int .i64 0)],.nil,.nil],[],places):=
 ⟨[],by kernel_rfl⟩
set_option maxRecDepth 100000 in
theorem lifted (os:Os) (started:os.Started) (H:Type) (enc:TypeId×Value->H) (F:Stop.Interp) :
  ReturnsInHanded {} Tryz.checked os 3 .any ((Rows.OpenSpec.upto Rows.wholeProductSpec).preRow enc Tryz.prog Tryz.f3 Rows.wholeProductUptoRow.domain false Rows.wholeProductUptoRow.laid) (((Rows.OpenSpec.upto Rows.wholeProductSpec).at F).post enc Tryz.prog Tryz.f3 false true false false):=by
 obtain⟨places,hx⟩:=reads os enc
 refine returnsInHanded_of_row (C:=Tryz.checked) (s:=Rows.OpenSpec.upto Rows.wholeProductSpec) own started (by kernel_rfl) Tryz.func3
  (witness_row_at (enc:=enc) (C:=Tryz.checked) false (laidWorld os) #[.agg #[Value.int .i64 0,.slice none 0 0,Value.int .i64 0],.slice none 0 0,.slice none 0 0] rfl (by kernel_rfl) (by kernel_rfl) (by kernel_rfl)
   (OpenSpec.preRow_of_cond 8 hx (by kernel_rfl) (λk hk=>by cases hk;kernel_rfl) (by kernel_rfl) (laid_met os))) ?_
 intro W base args ds gs before hval hW _ hk _ _ _ _
 exact contract H enc W base args ds gs before hval hW (hk _ rfl)
theorem said:Rows.WholeProductUptoSaid:=
 OpenClaim.holds_of_cond 3 Tryz.f3 rfl rfl rfl rfl rfl rfl rfl ⟨rfl,rfl,rfl,rfl,rfl⟩ rfl rfl rfl rfl rfl (by kernel_rfl) Tryz.func3 (by kernel_rfl)
  (of_decide_eq_true (by kernel_rfl)) (by unfold Func.isWrapper;first | (rw[if_pos (by decide +kernel)];kernel_rfl) | (rw[if_neg (by decide +kernel)];exact⟨rfl,rfl⟩))
  (λos started H enc _ F=>by rw[OpenClaim.pre_eq_preRow];exact lifted os started H enc F)
theorem plain (f:FuncId) (fn:Func) (hf:Tryz.pinned.checked.prog.funcNamed Rows.wholeProductUptoRow.func=some f) (hfn:Tryz.pinned.checked.prog.funcs[f]? = some fn) :
  true=Tryz.pinned.checked.prog.looks []/\∀(j:Nat) t,fn.params[j]? = some t->Tryz.pinned.checked.prog.wantsStandIn t=false:=by
 obtain rfl:f=3:=Option.some.inj ((show Tryz.prog.funcNamed Rows.wholeProductUptoRow.func=some 3 by kernel_rfl).symm.trans hf) |>.symm
 obtain rfl:fn=Tryz.f3:=(Option.some.inj (Tryz.func3.symm.trans hfn)).symm
 refine⟨by kernel_rfl,λj t ht=>?_⟩
 rw[Tryz.params3] at ht
 have hm:=Array.mem_of_getElem? ht
 simp only[List.mem_toArray,List.mem_cons,List.not_mem_nil,or_false] at hm
 rcases hm with rfl | rfl | rfl
 ·exact(show Tryz.prog.wantsStandIn 24=false by kernel_rfl)
 ·exact(show Tryz.prog.wantsStandIn 25=false by kernel_rfl)
 ·exact(show Tryz.prog.wantsStandIn 25=false by kernel_rfl)
theorem proved:Rows.WholeProductUptoCardSaid:=
 Claim7.holds_tied_plain_at .later [] _ _ _ _ said (λ_ h=>by cases h) (by kernel_rfl) (λ_ h=>by cases h) wholeProductUpto_row_tie rfl ⟨rfl,rfl⟩ (by kernel_rfl) rfl plain (by kernel_rfl)
end Go.Proofs.YtcmagbhiioheeaaGreatDoor.wholeProduct
