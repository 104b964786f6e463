/- A law's last step: what the contract gives is what the row asks. Conditions: none. -/
import Derived.Test.YtbnjpdocceckeaaGreatRowB
set_option linter.all false
namespace Go.Gg
open Go.RowKit (Below)
open Go.ChangeShapes (trodAll_cons trodAll_nil trodVars_none)
variable{W:World}
section
variable{H:Type}{enc:TypeId×Value->H}{P:Program}
theorem CF(hl:laidOutB P=true){W W':World}{sp':Nat->Bool}(hb:Below W.heap.size W W'):∀ {ts:List TypeId} {vs:List Value} {ds:List (DataW H)} {ps:List MemPlace},(∀t∈ts,P.readableRec t=true/\t<P.types.size)->DataW.TrodAll enc P W 0 (λ_=>true) true ts vs ds ps->(∀p∈ps,p.block<W.heap.size/\sp' p.block=true)->DataW.TrodAll enc P W' 0 sp' true ts vs ds ps
 | [],_,_,_,_,h,_=>by obtain⟨rfl,rfl,rfl⟩:=trodAll_nil h;rfl
 | t::ts,_,_,_,ht,h,hp=>by
  obtain⟨v,vs,d,ds,p,q,rfl,rfl,rfl,h1,h2⟩:=trodAll_cons h;have k:=ht t Qy
  exact⟨p,q,WideElems.Trod_stays hl k.1 k.2 h1 (λx hx=>hb.same (hp x (List.mem_append_left _ hx)).1) (λx hx=>(hp x (List.mem_append_left _ hx)).2),
   CF hl hb (λt' Xk=>ht t' (by simp[Xk])) h2 (λx hx=>hp x (List.mem_append_right _ hx)),rfl⟩
theorem KS{f:Func}{s:ChangeSpec}{apart fresh handsOn again:Bool}{W':World}{args:Array Value}{ds:List (DataW H)}{before:List MemPlace}{tb:TypeId}(hl:laidOutB P=true)(ht:∀t∈f.params.toList,P.readableRec t=true/\t<P.types.size)(hv:s.vars=[])(hr:f.resultTypes = #[tb])(hb:P.underlying tb=some .bool)(hW:DataW.Whole enc P f.params.toList s.vars apart W args.toList ds [] before)(hs:s.fn H ds = { results:=[.lit (.bool true)],args:=ds })(hbe:Below W.heap.size W W') :s.post enc P f apart fresh handsOn again W args (.bool true) W':=by
 have QH:=hW.lt;obtain⟨p,q,hA,hV,hpq,hz,hn⟩:=id hW;rw[hv]at hV;obtain⟨_,rfl⟩:=trodVars_none hV;rw[List.append_nil]at hpq;subst hpq;have stay:∀sp:Nat->Bool,(∀x∈before,sp x.block=true)->DataW.TrodAll enc P W' 0 sp true f.params.toList args.toList ds before:=λsp hsp=>CF hl hbe ht hA (λx hx=>⟨QH x hx,hsp x hx⟩);have res:∀(b:Nat) (sp:Nat->Bool) (hd:Bool),DataW.TrodAll enc P W' b sp hd [tb] [.bool true] [.lit (.bool true)] []:=λb sp hd=>⟨[],[],RowKit.shut_bool hb true,rfl,rfl⟩;have adY:(Value.bool true).resultList 1=[.bool true]:=rfl;have e0:ds++([]:List (DataW H))=ds:=List.append_nil ds;refine⟨ds,[],before,[],before,[],hW,?_,?_,?_,World.keptBut_mono (λx hx=>⟨hx,Or.inr (Or.inl hx)⟩) (hbe.frame (·∈before)),λ_=>⟨?_,?_⟩⟩
 ·rw[e0,hs,hr];exact res _ _ _
 ·rw[e0,hs];exact stay _ (λx hx=>by simpa using QH x hx)
 ·rw[e0,hs,hv];rfl
 ·exact RowKit.ok_one hr rfl (RowKit.okWide_bool_mk hb _)
 ·refine⟨.lit (.bool true)::ds,[],before,⟨before,[],?_,?_,by simp,λb off hp=>?_,λha=>hn ha⟩,λx hx _=>hx⟩;·rw[hr];exact⟨[],before,RowKit.shut_bool hb true,stay _ (λ_ _=>rfl),rfl⟩
  ·rw[hv];rfl
  ·rw[hbe.frozen (QH _ hp)];exact hz b off hp
end
variable{P:Program}
theorem Ld{base:Nat}{t:TypeId}{v:Value}{fs:Array Field}{L:List AV}(QT:Value.okWide P W .any base t v)(ht:P.underlying t=some (.struct fs))(hv:VRL (gw W) (.agg L) v.cells.toList):VR (gw W) (.agg L) v:=by
 unfold Value.okWide at QT;rw[ht]at QT;obtain⟨cs,rfl,_,_⟩:=QT;have hc:(Value.agg cs).cells=cs:=rfl;rw[hc]at hv;have h1:cs.toList.length=L.length:=hv.1;refine .agg _ _ (by rw[<-h1];simp) (λi h h'=>?_);have:=hv.2 i h (by simpa using h');have e:cs.toList[i]'(by simpa using h')=cs[i]:=by simp
 rw[e]at this;exact this
theorem Ph{G:Qh}{a0:AV}{v0:Value}(h0:VR G a0 v0):VRs G [a0] #[v0]:=⟨rfl,λi h h'=>by
 match i,h,h' with
 | 0,_,_=>exact h0
 | i+1,h,_=>exact absurd h Qy⟩
theorem GH{f:FuncId}{avs:List AV}{vs:Array Value}(h:Ctr P f avs S0 (λv _=>v = .bool true))(hv:VRs (gw W) avs vs) :Calls P f vs W λe W'=>e = .returned (.bool true)/\Below W.heap.size W W':=by refine(h.2 (gw W) W vs (Pm W) hv).mono λe W' ⟨v,av,S',G',he,hR,hle,agO,hvr⟩=>?_;subst hR;have hb:=agO.below.1;rw[hle.init.1]at hb;cases hvr;exact⟨he,hb⟩
end Go.Gg
