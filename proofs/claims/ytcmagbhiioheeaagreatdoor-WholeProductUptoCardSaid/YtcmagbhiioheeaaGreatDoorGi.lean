/- An own logic over the kit's weakest preconditions, part Wq: rows of rows that are written, swapped and handed over. Conditions: none. -/
import Derived.Test.YtcmagbhiioheeaaGreatDoorGh
open List (getElem_map)
open Option (getD_some)
namespace Go.Gg
section
variable {α:Type} {P:Program} {n:Nat} {ops c:List Oper} {Kt:Env->St->Prop} {t:Env} {S0:St} {rg rf kk:Nat} {enc:α->AV} {gs:Nat->Nat} {T:List (List α)} {L:cq} {g:Nat} {l:List α}
theorem Wl.famPt (R:Nat) (m:Int) (hne:rf≠rg) (hm:m.toNat<T.length) (hS:lkp L R=some (.arr kk (l.map enc),g)) (es:Nat->List (Nat×AV)) (mo:cq) (hmo:dlt L R=mo) (hf:∀g',Ds [((rg,R,g),(rf,m.toNat,g'))] t (es g'))
    (h:∀g',Wl P n ops c Kt (aw (es g')) (stL (bR S0 rf kk enc (oc gs m.toNat g') (aN T m l)) rg mo)):Wl P n ops c Kt t (stL (bR S0 rf kk enc gs T) rg L):=by
  intro hok ro G a w Q hr ht hQ
  obtain⟨g',G',h1,h2,h3⟩:=hr.ren (r:=rg) (k:=R) (by rw[eR];exact hS) rf m.toNat
  rw[xL,hmo,vK hne hm] at h3
  exact h g' hok ro G' _ w Q h3 ⟨(ht.mono h1).1,(ht.mono h1).2.1,λi=>(hf g').vr (λa ha=>by rw[List.mem_singleton.1 ha];exact h2) i _ ((ht.mono h1).2.2 i)⟩ (λa w hl=>hQ a w (Gg.lift_mono hl h1))
theorem Di {m:Int} (hl:l.length=(at' T m).length):bH rf kk gs (aN T m l)=bH rf kk gs T:=by
  apply List.ext_getElem
  · simp[bH,aN]
  · intro j h1 h2
    have hj:j<T.length:=by simpa[bH] using h2
    have e:((T.set m.toNat l).getD j []).length=(T.getD j []).length:=by
      by_cases h:m.toNat=j
      · subst h
        rw[List.getD_eq_getElem?_getD,List.getElem?_set_self hj]
        exact hl
      · simp only[List.getD_eq_getElem?_getD,List.getElem?_set_ne h]
    simp only[bH,getElem_map,List.getElem_range,aN,e]
theorem za {A:St} {K:Nat} {o:GObj} (hS:lkp L K=some (o,g)):stL A rg ((K,o,g) :: L)=stL A rg L:=by
  rw[<-dt]
  funext r k
  simp only[St.set]
  split
  · rename_i hc;obtain⟨rfl,rfl⟩:=hc;rw[eR,hS]
  · rfl
theorem EWk.famKeep {A:St} {K:Nat} (hS:lkp L K=some (.arr 1 (bH rf kk gs T),g)) (m:Int) (l:List α) (hl:l.length=(at' T m).length):EWk t (stL A rg L) t (stL A rg ((K,.arr 1 (bH rf kk gs (aN T m l)),g) :: L)):=by
  rw[Di hl,za hS]
  exact EWk.refl _ _
end
abbrev swp {α:Type} (T:List (List α)) (a b:Int):List (List α):=aN (aN T a (at' T b)) b (at' T a)
def Gz:AV->Bool | .sl ..=>true | _=>false
theorem Cg {rf kk:Nat} {α:Type} {gs:Nat->Nat} {T:List (List α)}:∀z∈bH rf kk gs T,Gz z=true:=λz hz=>by
  simp only[bH,List.mem_map] at hz
  obtain⟨_,_,rfl⟩:=hz
  rfl
theorem Rz {es:List AV} {i:Nat} {v:AV} (h:∀z∈es,Gz z=true) (hv:Gz v=true):∀z∈es.set i v,Gz z=true:=λz hz=>(List.mem_or_eq_of_mem_set hz).elim (h z) (λe=>e▸hv)
theorem zs {P:Program} {rg:Nat} {d:Option Nat} {T:TypeId} {a x:Operand} {t:Env} {S S':St} {K:AV->St->Prop} {r k g i:Nat} {es:List AV} {v:AV} (hS:S r k=some (.arr 1 es,g)) (hs:sz P T=1) (ha:ev t a = .ptr r k g i 0) (hi:i<es.length) (hx:ev t x=v) (hv:v.cells=[v]) (h1:eO [v]=true) (hst:∀z∈es,Gz z=true)
    (hset:S.set r k (.arr 1 (es.set i v)) g=S') (h:K .junk S'):vo P rg d (.store T a x) t S K:=by
  have e:stv (es.getD i .junk) 0 v=v:=by
    have hm:=hst _ (List.getElem_mem hi)
    rw[List.getD_eq_getElem?_getD,List.getElem?_eq_getElem hi,getD_some]
    cases h2:es[i]<;>rw[h2] at hm<;>first | rfl | cases hm
  rw[vo_store,ha,hx,h_]
  simp only[hS]
  refine⟨⟨trivial,hi,om,by rw[hv,hs];rfl,om,by rw[hv];exact h1⟩,?_⟩
  rw[e,hset]
  exact h
theorem FL {A:ALs} {es es':List AV} (hl:es.length=es'.length) (h:∀(i:Nat) (h1:i<es.length) (h2:i<es'.length),es[i].cells=[es[i]]/\es'[i].cells=[es'[i]]/\RN A es[i] es'[i]):RO A (.arr 1 es) (.arr 1 es'):=λG w L hA ho=>by
  obtain⟨h1,h2,h3,h4,h5,h6⟩:=ho
  refine⟨h1,h2,om,h4,λi hi=>by rw[(h i om hi).2.1];rfl,λhc=>?_⟩
  obtain⟨row,a1,a2,a3⟩:=h6 hc
  refine⟨row,a1,a2,λi hi j hj=>?_⟩
  obtain⟨q1,q2,q3⟩:=h i om hi
  have hj0:j=0:=by rw[q2] at hj;simpa using hj
  subst hj0
  obtain⟨x,x1,x2⟩:=a3 i om 0 (by rw[q1];simp)
  refine⟨x,x1,?_⟩
  have e1:es[i].cells[0]'(by rw[q1];simp)=es[i]:=by simp only[q1,List.getElem_cons_zero]
  have e2:es'[i].cells[0]'hj=es'[i]:=by simp only[q2,List.getElem_cons_zero]
  rw[e1] at x2
  rw[e2]
  exact q3 G x hA x2
theorem RN.to {A:ALs} {kk r k g r' k' g' n m:Nat} (h:((r,k,g),(r',k',g'))∈A) (hn:n=m):RN A (.sl kk r k g 0 n) (.sl kk r' k' g' 0 m):=λG x hA hv=>by
  subst hn
  obtain⟨L,a1,a2⟩:=hA _ h
  cases hv with
  | sl _ _ _ _ _ _ a L' h1 h2 h3 h4 h5=>simp only at a1;rw[a1] at h1;cases h1;exact .sl _ _ _ _ _ _ _ _ a2 h2 h3 h4 h5
section
variable {α:Type} {S0:St} {rg rf kk:Nat} {enc:α->AV} {gs:Nat->Nat} {T:List (List α)} {L:cq} {g K:Nat} {a b:Int}
theorem BH:(swp T a b).length=T.length:=by simp[swp,aN]
theorem xI (ha:a.toNat<T.length) (hb:b.toNat<T.length) (k:Nat):(swp T a b).getD k []=if k=b.toNat then at' T a else if k=a.toNat then at' T b else T.getD k []:=by
  unfold swp aN
  rw[List.getD_eq_getElem?_getD]
  by_cases h:k=b.toNat
  · subst h
    rw[List.getElem?_set_self (by rw[List.length_set];exact hb),if_pos rfl];rfl
  · rw[List.getElem?_set_ne (Ne.symm h),if_neg h]
    by_cases h2:k=a.toNat
    · subst h2
      rw[List.getElem?_set_self ha,if_pos rfl];rfl
    · rw[List.getElem?_set_ne (Ne.symm h2),if_neg h2,List.getD_eq_getElem?_getD]
theorem Rel.famSw {G:Ghost} {w:World} (hne:rf≠rg) (ha:a.toNat<T.length) (hb:b.toNat<T.length) (hr:Rel G (stL (bR S0 rf kk enc gs T) rg L) w)
    (hS:lkp L K=some (.arr 1 (((bH rf kk gs T).set a.toNat (.sl kk rf b.toNat (gs b.toNat) 0 (at' T b).length)).set b.toNat (.sl kk rf a.toNat (gs a.toNat) 0 (at' T a).length)),g)) :
    ∃gs' G',G.le G'/\Rel G' (stL (bR S0 rf kk enc gs' (swp T a b)) rg ((K,.arr 1 (bH rf kk gs' (swp T a b)),g) :: L)) w:=by
  by_cases hab:a.toNat=b.toNat
  · have hat:at' T a=at' T b:=by simp[at',hab]
    have e1:swp T a b=T:=by
      apply List.ext_getElem BH
      intro j h1 h2
      have:=xI ha hb j
      rw[List.getD_eq_getElem?_getD,List.getElem?_eq_getElem h1,getD_some] at this
      rw[this]
      split
      · rename_i h;subst h;simp[at',hab,List.getD_eq_getElem?_getD,h2]
      · rw[if_neg om,List.getD_eq_getElem?_getD,List.getElem?_eq_getElem h2,getD_some]
    refine⟨gs,G,Ghost.le.refl G,?_⟩
    rw[e1]
    have e2:((bH rf kk gs T).set a.toNat (.sl kk rf b.toNat (gs b.toNat) 0 (at' T b).length)).set b.toNat (.sl kk rf a.toNat (gs a.toNat) 0 (at' T a).length)=bH rf kk gs T:=by
      rw[hab,List.set_set,hat]
      apply List.ext_getElem zSm
      intro j h1 h2
      rw[List.getElem_set]
      split
      · rename_i h;subst h;simp only[bH,getElem_map,List.getElem_range];rfl
      · rfl
    rw[e2] at hS
    rw[za hS]
    exact hr
  · obtain⟨N,hN⟩:=hr.fin
    have hr':∃r',r'≠rf/\r'≠rg/\∀k,stL (bR S0 rf kk enc gs T) rg L r' k=none:=⟨max N (max (rf+1) (rg+1)),om,om,λk=>hN _ om k⟩
    obtain⟨r',n1,n2,hr'⟩:=hr'
    obtain⟨g1,G1,l1,al1,R1⟩:=hr.ren (nN hne a.toNat) r' 0
    obtain⟨g2,G2,l2,al2,R2⟩:=R1.ren (r:=rf) (k:=b.toNat) (o:=.arr kk ((T.getD b.toNat []).map enc)) (g:=gs b.toNat) (by
      simp only[St.set,St.del]
      rw[if_neg (λh=>n1 h.1.symm),if_neg (λh=>hab h.2.symm)]
      exact nN hne b.toNat) rf a.toNat
    obtain⟨g3,G3,l3,al3,R3⟩:=R2.ren (r:=r') (k:=0) (o:=.arr kk ((T.getD a.toNat []).map enc)) (g:=g1) (by
      simp only[St.set,St.del]
      rw[if_neg (λh=>n1 h.1),if_neg (λh=>n1 h.1),if_pos zSm]) rf b.toNat
    have alA:AL G3 ((rf,b.toNat,gs b.toNat),(rf,a.toNat,g2)):=al2.mono l3
    have alB:AL G3 ((rf,a.toNat,gs a.toNat),(rf,b.toNat,g3)):=by
      obtain⟨x,x1,x2⟩:=al1.mono (l2.trans l3)
      obtain⟨y,y1,y2⟩:=al3
      simp only at x1 x2 y1 y2
      rw[x2] at y1
      cases y1
      exact⟨x,x1,y2⟩
    let gs':Nat->Nat:=oc (oc gs a.toNat g2) b.toNat g3
    refine⟨gs',G3,l1.trans (l2.trans l3),?_⟩
    have R4:Rel G3 (stL (bR S0 rf kk enc gs' (swp T a b)) rg L) w:=R3.sub λr k x e=>by
      simp only[St.set,St.del]
      by_cases h1:r=rf
      · subst h1
        rw[nN hne,xI ha hb] at e
        by_cases h2:k=b.toNat
        · subst h2
          rw[if_pos ⟨rfl,rfl⟩,<-e,if_pos rfl]
          simp only[gs',oc,if_pos];rfl
        · rw[if_neg (λh=>h2 h.2),if_neg (λh=>n1 h.1.symm)]
          by_cases h3:k=a.toNat
          · subst h3
            rw[if_pos ⟨rfl,rfl⟩,<-e,if_neg h2,if_pos rfl]
            simp only[gs',oc,if_neg h2,if_pos];rfl
          · rw[if_neg (λh=>h3 h.2),if_neg (λh=>h2 h.2),if_neg (λh=>n1 h.1.symm),if_neg (λh=>h3 h.2),nN hne,<-e,if_neg h2,if_neg h3]
            simp only[gs',oc,if_neg h2,if_neg h3]
      · have h4:r≠r':=λh=>by
          subst h
          have:=hr' k
          simp only[stL] at this e
          rw[if_neg n2,nM h1] at this
          rw[if_neg n2,nM h1,this] at e;cases e
        rw[if_neg (λh=>h1 h.1),if_neg (λh=>h4 h.1),if_neg (λh=>h1 h.1),if_neg (λh=>h1 h.1),if_neg (λh=>h4 h.1),if_neg (λh=>h1 h.1)]
        simp only[stL] at e ⊢
        split at e
        · rename_i h5;rw[if_pos h5];exact e
        · rename_i h5;rw[if_neg h5];rw[nM h1] at e ⊢;exact e
    refine R4.remap λr k o' g' e=>?_
    rw[<-dt] at e
    simp only[St.set] at e
    split at e
    · rename_i hc
      obtain⟨rfl,rfl⟩:=hc
      cases e
      refine⟨_,by rw[eR];exact hS,λL1 hL1=>?_⟩
      obtain⟨L2,hL2,hob,_⟩:=R4.obj r k _ _ (by rw[eR];exact hS)
      obtain rfl:L2=L1:=by rw[hL1] at hL2;exact(Option.some.inj hL2).symm
      refine FL (A:=[((rf,b.toNat,gs b.toNat),(rf,a.toNat,g2)),((rf,a.toNat,gs a.toNat),(rf,b.toNat,g3))]) (by simp[bH,BH]) (λi h1 h2=>?_) G3 w L2 (λx hx=>by
        rcases List.mem_cons.1 hx with rfl | hx
        · exact alA
        · rw[List.mem_singleton.1 hx];exact alB) hob
      have hi:i<T.length:=by simpa[bH] using h1
      have e2:(bH rf kk gs' (swp T a b))[i]'h2 = .sl kk rf i (gs' i) 0 ((swp T a b).getD i []).length:=by simp only[bH,getElem_map,List.getElem_range]
      rw[e2,List.getElem_set,xI ha hb]
      by_cases h3:b.toNat=i
      · subst h3
        rw[if_pos rfl,if_pos rfl]
        refine⟨rfl,rfl,?_⟩
        simp only[gs',oc,if_pos]
        exact RN.to zSm rfl
      · rw[if_neg h3,if_neg (Ne.symm h3),List.getElem_set]
        by_cases h4:a.toNat=i
        · subst h4
          rw[if_pos rfl,if_pos rfl]
          refine⟨rfl,rfl,?_⟩
          simp only[gs',oc,if_neg (Ne.symm h3),if_pos]
          exact RN.to zSm rfl
        · rw[if_neg h4,if_neg (Ne.symm h4)]
          simp only[bH,getElem_map,List.getElem_range,gs',oc,if_neg (Ne.symm h3),if_neg (Ne.symm h4)]
          exact⟨rfl,rfl,nu⟩
    · refine⟨o',e,λL1 hL1=>?_⟩
      obtain⟨L2,hL2,hob,_⟩:=R4.obj _ _ _ _ e
      obtain rfl:L2=L1:=by rw[hL1] at hL2;exact(Option.some.inj hL2).symm
      exact hob
theorem Vc.famSw {P:Program} {n:Nat} {c:Code} {Q:AK} {t:Env} (hne:rf≠rg) (ha:a.toNat<T.length) (hb:b.toNat<T.length)
    (hS:lkp L K=some (.arr 1 (((bH rf kk gs T).set a.toNat (.sl kk rf b.toNat (gs b.toNat) 0 (at' T b).length)).set b.toNat (.sl kk rf a.toNat (gs a.toNat) 0 (at' T a).length)),g))
    (h:∀gs',Vc P n c Q t (stL (bR S0 rf kk enc gs' (swp T a b)) rg ((K,.arr 1 (bH rf kk gs' (swp T a b)),g) :: L))):Vc P n c Q t (stL (bR S0 rf kk enc gs T) rg L):=by
  intro ro hok G x w hr ht
  obtain⟨gs',G',h1,h2⟩:=hr.famSw hne ha hb hS
  exact wpIn_mono (h gs' ro hok G' x w h2 (ht.mono h1)) (λ_ _ _ he=>AK.lift_mono h1 he)
end
theorem Wl.famQ {α:Type} {P:Program} {n:Nat} {ops c:List Oper} {Kt:Env->St->Prop} {t:Env} {S0:St} {rg K g:Nat} {L:cq} {m:Int} (kk:Nat) (enc:α->AV) (q:Nat) (hS:lkp L K=some (.arr 1 (aQ m .nil),g)) (hk:0<kk)
    (h:∀rf gs,rf≠rg->rf≠q->(∀k,S0 rf k=none)->Wl P n ops c Kt t (stL (bR S0 rf kk enc gs (aQ m [])) rg ((K,.arr 1 (bH rf kk gs (aQ m ([]:List α))),g) :: L))):Wl P n ops c Kt t (stL S0 rg L):=by
  intro hok ro G a w Q hr ht hQ
  obtain⟨rf,gs,G',h1,h1',h2,h3,h4⟩:=hr.famMake q enc hk hS
  exact h rf gs h1 h1' h2 hok ro G' a w Q h4 (ht.mono h3) (λa w hl=>hQ a w (Gg.lift_mono hl h3))
theorem Dh {α:Type} {S0:St} {rf rg kk k0 g0:Nat} {o0:GObj} {enc:α->AV} {gs:Nat->Nat} {T:List (List α)} {L:cq} (hne:rf≠rg):stX (bR (stL S0 rg L) rf kk enc gs T) [(rg,k0,o0,g0)]=stL (bR S0 rf kk enc gs T) rg ((k0,o0,g0) :: L):=by
  rw[<-dt]
  show(bR (stL S0 rg L) rf kk enc gs T).set rg k0 o0 g0=_
  congr 1
  funext r k
  simp only[bR,stL]
  by_cases h:r=rf
  · subst h
    rw[if_pos rfl,if_neg hne,if_pos rfl]
  · rw[if_neg h]
    simp only[if_neg h]
theorem Dg {α:Type} {S:St} {rf rg kk q k g:Nat} {o:GObj} {enc:α->AV} {gs:Nat->Nat} {T:List (List α)} (hq:rf≠q) (hrg:∀i,stX (bR S rf kk enc gs T) [(q,k,o,g)] rg i=none):∀i,S rg i=none:=λi=>by
  have h0:rg≠rf:=λhc=>by
    subst hc
    have:=hrg 0
    simp only[stX,St.set,bR] at this
    rw[if_neg (λhh=>hq hh.1)] at this
    simp at this
  have:=hrg i
  simp only[stX,St.set] at this
  split at this
  · cases this
  · rwa[nM h0] at this
theorem GB {α:Type} {S0:St} {rg rf kk K g:Nat} {enc:α->AV} {gs:Nat->Nat} {T:List (List α)} {L:cq} (hne:rf≠rg) (hS:lkp L K=some (.arr 1 (bH rf kk gs T),g)) :
    stX (bR (stL S0 rg (dlt L K)) rf kk enc gs T) [(rg,K,.arr 1 (bH rf kk gs T),g)]=stL (bR S0 rf kk enc gs T) rg L:=by
  funext r k
  simp only[stX,St.set,bR,stL]
  by_cases h:r=rg/\k=K
  · obtain⟨rfl,rfl⟩:=h
    rw[if_pos ⟨rfl,rfl⟩,if_pos rfl,hS]
  · rw[if_neg h]
    by_cases h1:r=rf
    · subst h1
      rw[if_pos rfl,if_neg hne,if_pos rfl]
    · rw[if_neg h1,if_neg h1]
      by_cases h2:r=rg
      · subst h2
        have h3:k≠K:=λhk=>h ⟨rfl,hk⟩
        rw[if_pos rfl,if_pos rfl,yc,jv h3];rfl
      · rw[if_neg h2,if_neg h2]
theorem Ctr.over {α:Type} {P:Program} {f:FuncId} {us:List AV} {R:AV->St->Prop} {S0:St} {rg rf kk K g:Nat} {enc:α->AV} {gs:Nat->Nat} {T:List (List α)} {L:cq} (hne:rf≠rg) (hS:lkp L K=some (.arr 1 (bH rf kk gs T),g))
    (h:Ctr P f us (stX (bR (stL S0 rg (dlt L K)) rf kk enc gs T) [(rg,K,.arr 1 (bH rf kk gs T),g)]) R):Ctr P f us (stL (bR S0 rf kk enc gs T) rg L) R:=by rwa[GB hne hS] at h
theorem Vc.famIn {α:Type} {P:Program} {n:Nat} {c:Code} {Q:AK} {t:Env} {S:St} {rg rf kk q k g m:Nat} {enc:α->AV} {gs:Nat->Nat} {T:List (List α)} (K:Nat) (hrg:∀i,stX (bR S rf kk enc gs T) [(q,k,.arr 1 (bH rf kk gs T),g)] rg i=none) (hq:rf≠q) (hqk:S q k=none) (es:Nat->List (Nat×AV)) (hf:∀g',Ds [((q,k,g),(rg,K,g'))] t (es g'))
    (h:rf≠rg->∀g',Vc P n c Q (aw (es g')) (stL (bR S rf kk enc gs T) rg [(K,.arr 1 (bH rf kk gs T),g')])) (_hm:m=T.length):Vc P n c Q t (stL (stX (bR S rf kk enc gs T) [(q,k,.arr 1 (bH rf kk gs T),g)]) rg []):=by
  rw[tO hrg]
  have h0:rf≠rg:=λhc=>by
    subst hc
    have:=hrg 0
    simp only[stX,St.set,bR] at this
    rw[if_neg (λhh=>hq hh.1)] at this
    simp at this
  intro ro hok G a w hr ht
  obtain⟨g',G',h1,h2,h3⟩:=hr.ren (r:=q) (k:=k) (o:=.arr 1 (bH rf kk gs T)) (g:=g) (by simp[stX,St.set]) rg K
  have hS':(stL (bR S rf kk enc gs T) rg [(K,.arr 1 (bH rf kk gs T),g')]).sub (((stX (bR S rf kk enc gs T) [(q,k,.arr 1 (bH rf kk gs T),g)]).del q k).set rg K (.arr 1 (bH rf kk gs T)) g'):=λr i x e=>by
    simp only[stL,lkp] at e
    simp only[St.set]
    by_cases hr1:r=rg
    · subst hr1
      rw[if_pos rfl] at e
      by_cases hi:i=K
      · subst hi
        rw[if_pos ⟨rfl,rfl⟩]
        simpa using e
      · rw[jv hi] at e;cases e
    · rw[if_neg hr1] at e
      rw[if_neg (λhc=>hr1 hc.1)]
      simp only[St.del,stX,St.set]
      by_cases hc:r=q/\i=k
      · obtain⟨rfl,rfl⟩:=hc
        rw[nM (Ne.symm hq),hqk] at e;cases e
      · rw[if_neg hc,if_neg hc];exact e
  exact wpIn_mono (h h0 g' ro hok G' a w (h3.sub hS') ⟨(ht.mono h1).1,(ht.mono h1).2.1,λi=>(hf g').vr (λa ha=>by rw[List.mem_singleton.1 ha];exact h2) i _ ((ht.mono h1).2.2 i)⟩) (λ_ _ _ he=>AK.lift_mono h1 he)
end Go.Gg
