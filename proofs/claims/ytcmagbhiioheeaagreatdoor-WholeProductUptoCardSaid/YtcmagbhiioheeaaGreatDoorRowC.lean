/- A law's last step: what the contract gives is what the row asks. Conditions: none. -/
import Derived.Test.YtcmagbhiioheeaaGreatDoorRowB
namespace Go.Gg
open Go.RowKit (Below)
open Go.ChangeShapes (trodAll_cons trodAll_nil trodVars_none)
section
variable {H:Type} {enc:TypeId×Value->H} {P:Program}
theorem yZ (hl:laidOutB P=true) {W W':World} {sp':Nat->Bool} (hb:Below W.heap.size W W'):∀ {ts:List TypeId} {vs:List Value} {ds:List (DataW H)} {ps:List MemPlace},
    (∀t∈ts,P.readableRec t=true/\t<P.types.size)->DataW.TrodAll enc P W 0 (λ_=>true) true ts vs ds ps->(∀p∈ps,p.block<W.heap.size/\sp' p.block=true)->DataW.TrodAll enc P W' 0 sp' true ts vs ds ps
  | [],_,_,_,_,h,_=>by
    obtain⟨rfl,rfl,rfl⟩:=trodAll_nil h
    rfl
  | t :: ts,_,_,_,ht,h,hp=>by
    obtain⟨v,vs,d,ds,p,q,rfl,rfl,rfl,h1,h2⟩:=trodAll_cons h
    have k:=ht t zSm
    exact⟨p,q,WideElems.Trod_stays hl k.1 k.2 h1 (λx hx=>hb.same (hp x (List.mem_append_left _ hx)).1) (λx hx=>(hp x (List.mem_append_left _ hx)).2),
      yZ hl hb (λt' ht'=>ht t' (by simp[ht'])) h2 (λx hx=>hp x (List.mem_append_right _ hx)),rfl⟩
theorem H7 {f:Func} {s:ChangeSpec} {apart fresh handsOn again:Bool} {W W':World} {args:Array Value} {ds:List (DataW H)} {before:List MemPlace} {tb:TypeId}
    (hl:laidOutB P=true) (ht:∀t∈f.params.toList,P.readableRec t=true/\t<P.types.size) (hv:s.vars=[]) (hr:f.resultTypes = #[tb]) (hb:P.underlying tb=some .bool)
    (hW:DataW.Whole enc P f.params.toList s.vars apart W args.toList ds [] before) (hs:s.fn H ds = { results:=[.lit (.bool true)],args:=ds }) (hbe:Below W.heap.size W W') :
    s.post enc P f apart fresh handsOn again W args (.bool true) W':=by
  have hlt:=hW.lt
  obtain⟨p,q,hA,hV,hpq,hz,hn⟩:=id hW
  rw[hv] at hV
  obtain⟨_,rfl⟩:=trodVars_none hV
  rw[List.append_nil] at hpq
  subst hpq
  have stay:∀sp:Nat->Bool,(∀x∈before,sp x.block=true)->DataW.TrodAll enc P W' 0 sp true f.params.toList args.toList ds before:=
    λsp hsp=>yZ hl hbe ht hA (λx hx=>⟨hlt x hx,hsp x hx⟩)
  have res:∀(b:Nat) (sp:Nat->Bool) (hd:Bool),DataW.TrodAll enc P W' b sp hd [tb] [.bool true] [.lit (.bool true)] []:=
    λb sp hd=>⟨[],[],RowKit.shut_bool hb true,rfl,rfl⟩
  have hlist:(Value.bool true).resultList 1=[.bool true]:=rfl
  have e0:ds++([]:List (DataW H))=ds:=List.append_nil ds
  refine⟨ds,[],before,[],before,[],hW,?_,?_,?_,World.keptBut_mono (λx hx=>⟨hx,Or.inr (Or.inl hx)⟩) (hbe.frame (·∈before)),λ_=>⟨?_,?_⟩⟩
  · rw[e0,hs,hr];exact res _ _ _
  · rw[e0,hs];exact stay _ (λx hx=>by simpa using hlt x hx)
  · rw[e0,hs,hv];rfl
  · exact RowKit.ok_one hr rfl (RowKit.okWide_bool_mk hb _)
  · refine⟨.lit (.bool true) :: ds,[],before,⟨before,[],?_,?_,by simp,λb off hp=>?_,λha=>hn ha⟩,λx hx _=>hx⟩
    · rw[hr]
      exact⟨[],before,RowKit.shut_bool hb true,stay _ (λ_ _=>rfl),rfl⟩
    · rw[hv];rfl
    · rw[hbe.frozen (hlt _ hp)]
      exact hz b off hp
end
theorem Jn {P:Program} {W:World} {base:Nat} {t:TypeId} {v:Value} {fs:Array Field} {L:List AV} (hok:Value.okWide P W .any base t v) (ht:P.underlying t=some (.struct fs)) (hv:VRL (gw W) (.agg L) v.cells.toList):VR (gw W) (.agg L) v:=by
  unfold Value.okWide at hok
  rw[ht] at hok
  obtain⟨cs,rfl,_,_⟩:=hok
  have hc:(Value.agg cs).cells=cs:=rfl
  rw[hc] at hv
  have h1:cs.toList.length=L.length:=hv.1
  refine .agg _ _ (by rw[<-h1];simp) (λi h h'=>?_)
  have:=hv.2 i h (by simpa using h')
  have e:cs.toList[i]'(by simpa using h')=cs[i]:=by simp
  rw[e] at this
  exact this
theorem Ct {P:Program} {W:World} {base:Nat} {t:TypeId} {v:Value} {d:TypeDesc} {av:AV} (hok:Value.okWide P W .any base t v) (ht:P.underlying t=some d) (hd:(match d with | .struct _ | .array _ _=>false | _=>true)=true) (h1:av.cells=[av]) (hv:VRL (gw W) av v.cells.toList):VR (gw W) av v:=by
  have hna:v.cells = #[v]:=by
    cases v with
    | agg cs=>
      exfalso
      unfold Value.okWide at hok
      rw[ht] at hok
      cases d<;>simp[Cell.okWide,Cell.ok,ht] at hok hd
    | _=>rfl
  rw[hna] at hv
  have:=hv.2 0 (by rw[h1];exact Nat.zero_lt_one) Nat.zero_lt_one
  simp only[h1] at this
  exact this
theorem abx {G:Ghost} {a0 a1 a2:AV} {v0 v1 v2:Value} (h0:VR G a0 v0) (h1:VR G a1 v1) (h2:VR G a2 v2):VRs G [a0,a1,a2] #[v0,v1,v2]:=⟨rfl,λi h h'=>by
  match i,h,h' with
  | 0,_,_=>exact h0
  | 1,_,_=>exact h1
  | 2,_,_=>exact h2
  | i+3,h,_=>exact absurd h zSm⟩
theorem Da {P:Program} {f:FuncId} {avs:List AV} {W:World} {vs:Array Value} (h:Ctr P f avs S0 (λv _=>v = .bool true)) (hv:VRs (gw W) avs vs) :
    Calls P f vs W λe W'=>e = .returned (.bool true)/\Below W.heap.size W W':=by
  refine(h.2 (gw W) W vs (abD W) hv).mono λe W' ⟨v,av,S',G',he,hR,hle,hrel,hvr⟩=>?_
  subst hR
  have hb:=hrel.below.1
  rw[hle.init.1] at hb
  cases hvr
  exact⟨he,hb⟩
end Go.Gg
