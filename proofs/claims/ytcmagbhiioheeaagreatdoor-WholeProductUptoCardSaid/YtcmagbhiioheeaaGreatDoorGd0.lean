/- An own logic over the kit's weakest preconditions, part T: rows within boxes, closures. Conditions: none. -/
import Derived.Test.YtcmagbhiioheeaaGreatDoorGc
open List (getElem_cons_zero getElem_map length_set)
open Nat (beq ble)
open Option (getD_some)
namespace Go.Gg
def OWG (G:Ghost):GObj->GObj->Prop
  | .arr kk es,.arr kk' es'=>kk=kk'/\es.length=es'.length/\∀i (h:i<es.length) (h':i<es'.length),es[i].cells.length=es'[i].cells.length/\∀j (h1:j<es[i].cells.length) (h2:j<es'[i].cells.length) z,VR G es[i].cells[j] z->VR G es'[i].cells[j] z
  | _,_=>False
theorem Rel.owG {G:Ghost} {S:St} {w:World} (h:Rel G S w) {r k g:Nat} {o o':GObj} (hS:S r k=some (o,g)) (ho:OWG G o o'):Rel G (S.set r k o' g) w:=by
  refine h.remap λr' k' o2 g2 e=>?_
  simp only[St.set] at e
  split at e
  · rename_i hc
    obtain⟨rfl,rfl⟩:=hc
    cases e
    refine⟨o,hS,λL hL=>?_⟩
    obtain⟨L',hL',hobj,_⟩:=h.obj _ _ _ _ hS
    obtain rfl:L'=L:=by rw[hL] at hL';exact(Option.some.inj hL').symm
    cases o with
    | mp=>exact ho.elim
    | lp=>exact ho.elim
    | arr kk es=>
    cases o' with
    | mp=>exact ho.elim
    | lp=>exact ho.elim
    | arr kk' es'=>
    obtain⟨rfl,hl,hv⟩:=ho
    obtain⟨h1,h2,h3,h3',h4,h5⟩:=hobj
    refine⟨h1,h2,om,h3',λi hi=>?_,λhc=>?_⟩
    · rw[<-(hv i om hi).1];exact h4 i om
    · obtain⟨row,a1,a2,a3⟩:=h5 hc
      refine⟨row,a1,a2,λi hi j hj=>?_⟩
      have hvi:=hv i om hi
      obtain⟨z,z1,z2⟩:=a3 i om j (by rw[hvi.1];exact hj)
      exact⟨z,z1,hvi.2 j _ hj z z2⟩
  · exact⟨o2,e,λL hL=>by
      obtain⟨L',hL',hobj,_⟩:=h.obj _ _ _ _ e
      obtain rfl:L'=L:=by rw[hL] at hL';exact(Option.some.inj hL').symm
      exact hobj⟩
theorem Vc.matB {P:Program} {n:Nat} {c:Code} {Q:AK} {t:Env} {S0:St} {rg:Nat} {l:cq} {a:AV} {b:Nat->AV} {kk g0:Nat} (k0 i k k1:Nat) (hS:lkp l k0=some (.arr kk [a],g0)) (hc:a.cells[i]? = some .nil) (hk:0<k1) (hne:k≠k0)
    (hb:(λg=>(b g).cells)=λg=>a.cells.set i (.sl k1 rg k g 0 0)) (h:∀g,Vc P n c Q t (stL S0 rg ((k0,.arr kk [b g],g0) :: (k,.arr k1 [],g) :: l))):Vc P n c Q t (stL S0 rg l):=by
  intro ro hok G w0 w hr ht
  obtain⟨g,G',q1,q2,q3⟩:=hr.mat rg k k1 hk
  have hS2:((stL S0 rg l).set rg k (.arr k1 []) g) rg k0=some (.arr kk [a],g0):=by
    simp only[St.set]
    rw[if_neg (λhh=>hne hh.2.symm),eR]
    exact hS
  have hcb:(b g).cells=a.cells.set i (.sl k1 rg k g 0 0):=congrFun hb g
  have q4:=q2.owG (o':=.arr kk [b g]) hS2 ⟨rfl,rfl,λx h1 h2=>by
    have:x=0:=by simpa using h1
    subst this
    simp only[getElem_cons_zero]
    refine⟨by rw[hcb,length_set],λj h3 h4 z hz=>?_⟩
    have e:(b g).cells[j]=(a.cells.set i (.sl k1 rg k g 0 0))[j]'(by rw[length_set];exact h3):=by simp only[hcb]
    rw[e,List.getElem_set]
    split
    · rename_i hij
      subst hij
      rw[List.getElem?_eq_getElem h3] at hc
      rw[Option.some.inj hc] at hz
      cases hz
      exact q3
    · exact hz⟩
  rw[dt,dt] at q4
  exact wpIn_mono (h g ro hok G' w0 w q4 (ht.mono q1)) (λ_ _ _ he=>AK.lift_mono q1 he)
theorem ack:DK []:=trivial
theorem qt {p:Nat×Nat} {X:List (Nat×Nat)} (h:∀q∈X,¬(q.1=p.1/\q.2=p.2)) (h':DK X):DK (p :: X):=⟨h,h'⟩
theorem qi {p:Nat×Nat}:∀q∈([]:List (Nat×Nat)),¬(q.1=p.1/\q.2=p.2):=λ_ h=>by simp at h
theorem bg {p q:Nat×Nat} {X:List (Nat×Nat)} (h:¬(q.1=p.1/\q.2=p.2)) (h':∀q∈X,¬(q.1=p.1/\q.2=p.2)):∀q'∈q :: X,¬(q'.1=p.1/\q'.2=p.2):=λq' hq=>by
  rcases List.mem_cons.1 hq with e | e
  · subst e;exact h
  · exact h' q' e
theorem gU {r r' a b:Nat} (h:beq b a=false):¬(((r,b):Nat×Nat).1=((r',a):Nat×Nat).1/\((r,b):Nat×Nat).2=((r',a):Nat×Nat).2):=λhh=>xZ h hh.2
theorem cc {r r' a b:Nat} (h:r≠r'):¬(((r,b):Nat×Nat).1=((r',a):Nat×Nat).1/\((r,b):Nat×Nat).2=((r',a):Nat×Nat).2):=λhh=>h hh.1
theorem abS {p q:Nat×Nat} (h:¬(p.1=q.1/\p.2=q.2)):¬(q.1=p.1/\q.2=p.2):=λhh=>h ⟨hh.1.symm,hh.2.symm⟩
theorem s_ {p q:Nat×Nat}:∀ {X:List (Nat×Nat)} (i j:Nat),DK X->ble (i+1) j=true->X[i]? = some p->X[j]? = some q->¬(q.1=p.1/\q.2=p.2)
  | [],i,_,_,_,h,_=>by simp at h
  | _ :: _,0,0,_,hij,_,_=>by simp at hij
  | x :: X,0,j+1,hd,_,h1,h2=>by
    simp at h1;subst h1
    exact hd.1 q (List.mem_of_getElem? (by simpa using h2))
  | x :: X,i+1,0,_,hij,_,_=>by simp at hij
  | x :: X,i+1,j+1,hd,hij,h1,h2=>s_ i j hd.2 (by simpa using hij) (by simpa using h1) (by simpa using h2)
theorem bI {S:St}:stX S []=S:=rfl
theorem ah {S:St} {r k g:Nat} {o:GObj} {X:na} (h:S r k=some (o,g)) (h':stX S X=S):stX S ((r,k,o,g) :: X)=S:=by
  show(stX S X).set r k o g=S
  rw[h']
  funext a b
  simp only[St.set]
  split
  · rename_i hc;obtain⟨rfl,rfl⟩:=hc;exact h.symm
  · rfl
theorem bD {S S1 S2:St} {r k g:Nat} {o:GObj} {X:na} (h:stX S X=S1) (h':S1.set r k o g=S2):stX S ((r,k,o,g) :: X)=S2:=by
  show(stX S X).set r k o g=S2
  rw[h,h']
theorem EWk.owX {t:Env} {S:St} {rg r k g:Nat} {X X':na} {l:cq} {o o':GObj} (hne:r≠rg) (hd:DX X) (i:Nat) (h:X[i]? = some (r,k,o,g)) (hX:X.set i (r,k,o',g)=X') (ho:OW o o'):EWk t (stL (stX S X) rg l) t (stL (stX S X') rg l):=λn G a w hr ht=>
  ⟨G,Ghost.le.refl G,by rw[<-bp (l:=l) hne hd i h hX];exact hr.ow (atX hne hd i h) ho,ht⟩
theorem Dd {R:AV->St->Prop} {v:AV} {S:St} {rg r k g:Nat} {X X':na} {l:cq} {o o':GObj} (hne:r≠rg) (hd:DX X) (i:Nat) (h:X[i]? = some (r,k,o,g)) (hX:X.set i (r,k,o',g)=X') (ho:OW o o')
    (hg:cN R v (stL (stX S X') rg l)):cN R v (stL (stX S X) rg l):=λG w x hr hv=>hg G w x (by rw[<-bp (l:=l) hne hd i h hX];exact hr.ow (atX hne hd i h) ho) hv
theorem Wl.matB {P:Program} {n:Nat} {ops c:List Oper} {K:Env->St->Prop} {t:Env} {S0:St} {rg:Nat} {l:cq} {a:AV} {b:Nat->AV} {kk g0:Nat} (k0 i k k1:Nat) (hS:lkp l k0=some (.arr kk [a],g0)) (hc:a.cells[i]? = some .nil) (hk:0<k1) (hne:k≠k0)
    (hb:(λg=>(b g).cells)=λg=>a.cells.set i (.sl k1 rg k g 0 0)) (h:∀g,Wl P n ops c K t (stL S0 rg ((k0,.arr kk [b g],g0) :: (k,.arr k1 [],g) :: l))):Wl P n ops c K t (stL S0 rg l):=by
  intro hok ro G w0 w Q hr ht hQ
  obtain⟨g,G',q1,q2,q3⟩:=hr.mat rg k k1 hk
  have hS2:((stL S0 rg l).set rg k (.arr k1 []) g) rg k0=some (.arr kk [a],g0):=by
    simp only[St.set]
    rw[if_neg (λhh=>hne hh.2.symm),eR]
    exact hS
  have hcb:(b g).cells=a.cells.set i (.sl k1 rg k g 0 0):=congrFun hb g
  have q4:=q2.owG (o':=.arr kk [b g]) hS2 ⟨rfl,rfl,λx h1 h2=>by
    have:x=0:=by simpa using h1
    subst this
    simp only[getElem_cons_zero]
    refine⟨by rw[hcb,length_set],λj h3 h4 z hz=>?_⟩
    have e:(b g).cells[j]=(a.cells.set i (.sl k1 rg k g 0 0))[j]'(by rw[length_set];exact h3):=by simp only[hcb]
    rw[e,List.getElem_set]
    split
    · rename_i hij
      subst hij
      rw[List.getElem?_eq_getElem h3] at hc
      rw[Option.some.inj hc] at hz
      cases hz
      exact q3
    · exact hz⟩
  rw[dt,dt] at q4
  exact h g hok ro G' w0 w Q q4 (ht.mono q1) (λa w hl=>hQ a w (Gg.lift_mono hl q1))
theorem ag {l:List Key} {S S':St} {r k:Nat} {x:GObj×Nat} (h:bC l S' S) (i:Nat) (hi:l[i]? = some (r,k)) (hS:S r k=some x):S' r k=some x:=(h (r,k) (List.mem_of_getElem? hi)).trans hS
theorem uk {S:St} {x:Nat×Nat×GObj×Nat} {X Y:na} (h:stX S X=fB Y S):stX S (x :: X)=fB (x :: Y) S:=by
  show(stX S X).set _ _ _ _=(fB Y S).set _ _ _ _
  rw[h]
theorem dCE {P:Program} {rg:Nat} {us:Nat->CR2} {ops rest:List Oper} {d:Option Nat} {ty:TypeId} {pos:String} {after:Array Edge} {j:Nat} {log:Log} {t:Env} {S:St} {K:Env->St->Prop} {f:Operand} {xs:List Operand} {ts:Array TypeId} {g:FuncId} {fs caps vs:List AV}
    {V:Gen->AV} {rd wk:List Key} {wr:Gen->List WE} (hf:ev t f = .fn (.func g) fs caps) (ha:VWL (fs++(xs.map (ev t)++caps)) vs) (hu:us j=wc V rd wk wr) (hcf:cf ops log j (rd,wk)) (hne:(rd,wk)≠(([],[]):nT)) (hk:∀γ,(wr γ).map (λx=>(x.1,x.2.1))=wk)
    (hc:∀S',bC rd S' S->bC wk S' S->Ctr P g vs S' (λv S''=>∃γ,v=V γ/\S''=fB (wr γ) S'))
    (h:∀γ,vdT P rg us ops rest (j+1) ((j,(rd,wk)) :: log) (cK t d (V γ)) (fB (wr γ) S) K):vdT P rg us ops (⟨d,.call { callee:=.value f,args:=xs.toArray,argTypes:=ts },ty,pos,after,none⟩ :: rest) j log t S K:=by
  rw[yF,hu]
  refine⟨hcf,?_⟩
  rw[hf]
  refine⟨⟨λγ x hx=>?_,λS' h1 h2=>Ctr.arg ha.len (λi h1 h2=>ha.at i h1 h2) (hc S' h1 h2)⟩,λγ=>?_⟩
  · rw[show(wc V rd wk wr).wk=wk from rfl,<-hk γ]
    exact List.mem_map.2 ⟨x,hx,rfl⟩
  · have:=h γ
    rw[show lg j ((wc V rd wk wr).rd,(wc V rd wk wr).wk) log=(j,(rd,wk)) :: log from Px hne]
    exact this
open Go.RowKit (Below)
def bR {α:Type} (S:St) (rf kk:Nat) (enc:α->AV) (gs:Nat->Nat) (T:List (List α)):St:=λr k=>if r=rf then some (.arr kk ((T.getD k []).map enc),gs k) else S r k
def bH {α:Type} (rf kk:Nat) (gs:Nat->Nat) (T:List (List α)):List AV:=(List.range T.length).map λi=>.sl kk rf i (gs i) 0 (T.getD i []).length
def oc (gs:Nat->Nat) (i g:Nat):Nat->Nat:=λj=>if j=i then g else gs j
section
variable {α:Type} {S S0:St} {rf rg kk:Nat} {enc:α->AV} {gs:Nat->Nat} {T:List (List α)} {L:cq}
theorem nN (hne:rf≠rg) (i:Nat):stL (bR S0 rf kk enc gs T) rg L rf i=some (.arr kk ((T.getD i []).map enc),gs i):=by
  rw[kU hne]
  simp[bR]
theorem nM {r k:Nat} (h:r≠rf):bR S rf kk enc gs T r k=S r k:=by simp[bR,h]
theorem vK (hne:rf≠rg) {i g:Nat} {l:List α} (hi:i<T.length):(stL (bR S0 rf kk enc gs T) rg L).set rf i (.arr kk (l.map enc)) g=stL (bR S0 rf kk enc (oc gs i g) (T.set i l)) rg L:=by
  funext r k
  simp only[St.set,stL,bR]
  by_cases h1:r=rf
  · subst h1
    rw[if_neg hne,if_neg hne]
    by_cases h2:k=i
    · subst h2
      rw[if_pos ⟨rfl,rfl⟩]
      simp only[if_true,oc,List.getD_eq_getElem?_getD,List.getElem?_set_self hi,getD_some]
    · rw[if_neg (λh=>h2 h.2)]
      simp only[if_true,oc,if_neg h2,List.getD_eq_getElem?_getD,List.getElem?_set_ne (Ne.symm h2)]
  · rw[if_neg (λh=>h1 h.1)]
    simp only[if_neg h1]
theorem rv:(bH rf kk gs T).length=T.length:=by simp[bH]
theorem xj {i:Nat} (hi:i<T.length):(bH rf kk gs T).getD i .junk = .sl kk rf i (gs i) 0 (T.getD i []).length:=by
  rw[List.getD_eq_getElem?_getD]
  simp[bH,hi]
theorem GD {i g:Nat} {l:List α}:(bH rf kk gs T).set i (.sl kk rf i g 0 l.length)=bH rf kk (oc gs i g) (T.set i l):=by
  apply List.ext_getElem
  · simp[bH]
  · intro j h1 h2
    have hj:j<T.length:=by simpa[bH] using h1
    rw[List.getElem_set]
    simp only[bH,getElem_map,List.getElem_range,oc]
    by_cases h:i=j
    · subst h
      rw[if_pos rfl,if_pos rfl]
      simp only[List.getD_eq_getElem?_getD,List.getElem?_set_self hj,getD_some]
    · rw[if_neg h,if_neg (Ne.symm h)]
      simp only[List.getD_eq_getElem?_getD,List.getElem?_set_ne h]
end
theorem Rel.famMake {α:Type} {G:Ghost} {S0:St} {w:World} {rg K g:Nat} {L:cq} {kk:Nat} (q:Nat) (enc:α->AV) {n:Int} (hr:Rel G (stL S0 rg L) w) (hk:0<kk) (hS:lkp L K=some (.arr 1 (aQ n .nil),g)) :
    ∃rf gs G',rf≠rg/\rf≠q/\(∀k,S0 rf k=none)/\G.le G'/\Rel G' (stL (bR S0 rf kk enc gs (aQ n [])) rg ((K,.arr 1 (bH rf kk gs (aQ n ([]:List α))),g) :: L)) w:=by
  obtain⟨N,hN⟩:=hr.fin
  let rf:=max N (max (rg+1) (q+1))
  have hne:rf≠rg:=by show max N (max (rg+1) (q+1))≠rg;omega
  have hnq:rf≠q:=by show max N (max (rg+1) (q+1))≠q;omega
  have hrf:∀k,S0 rf k=none:=λk=>by
    have:=hN rf (Nat.le_max_left _ _) k
    rwa[kU hne] at this
  let gs:Nat->Nat:=λk=>(hr.fing rf k).choose
  have hgs:∀k,G.loc rf k (gs k)=none:=λk=>(hr.fing rf k).choose_spec _ (Nat.le_refl _)
  let L0:Loc:=⟨0,0,kk,0⟩
  let G':Ghost:={ G with loc:=λr k g=>if r=rf/\g=gs k then some L0 else G.loc r k g }
  have hle:G.le G':=by
    refine⟨⟨rfl,λ_ h=>h,rfl⟩,λ_ _ _ e=>e,λr k g L' e=>?_⟩
    show(if r=rf/\g=gs k then some L0 else G.loc r k g)=some L'
    split
    · rename_i hc;obtain⟨rfl,rfl⟩:=hc;rw[hgs] at e;cases e
    · exact e
  have hloc:∀k,G'.loc rf k (gs k)=some L0:=λk=>by
    show(if rf=rf/\gs k=gs k then some L0 else _)=_
    rw[if_pos ⟨rfl,rfl⟩]
  have hgetD:∀k,(aQ n ([]:List α)).getD k []=[]:=λk=>by
    rw[List.getD_eq_getElem?_getD]
    simp only[aQ,List.getElem?_replicate]
    split<;>rfl
  refine⟨rf,gs,G',hne,hnq,hrf,hle,?_⟩
  have h1:Rel G' (stL (bR S0 rf kk enc gs (aQ n [])) rg L) w:=by
    have src:∀ {r k o g},stL (bR S0 rf kk enc gs (aQ n [])) rg L r k=some (o,g)->(r=rf/\o = .arr kk []/\g=gs k)\/(r≠rf/\stL S0 rg L r k=some (o,g)):=λ{r k o g} e=>by
      by_cases h:r=rf
      · subst h
        rw[nN hne,hgetD] at e
        cases e
        exact .inl ⟨rfl,rfl,rfl⟩
      · refine .inr ⟨h,?_⟩
        simp only[stL] at e ⊢
        split
        · rename_i h2;rw[if_pos h2] at e;exact e
        · rename_i h2;rw[if_neg h2,nM h] at e;exact e
    refine⟨hr.below,hr.imm,λr k o g' e=>?_,?_,⟨rf+1,λr hr' k=>?_⟩,λr k=>?_⟩
    · rcases src e with⟨rfl,rfl,rfl⟩ | ⟨h,e⟩
      · exact⟨L0,hloc k,⟨hk,rfl,by simp,by simp[L0,maxLen],λi h=>by simp at h,λh=>by simp[L0] at h⟩,λh=>by simp[L0] at h⟩
      · obtain⟨L1,q1,q2,q3⟩:=hr.obj _ _ _ _ e
        exact⟨L1,hle.loc _ _ _ _ q1,q2.keep hle (λ_=>rfl),q3⟩
    · intro r1 k1 o1 g1 r2 k2 o2 g2 L1 L2 e1 e2 l1 l2 c1 c2 hne'
      rcases src e1 with⟨rfl,rfl,rfl⟩ | ⟨h1,e1⟩
      · rw[hloc] at l1;cases l1;simp[L0] at c1
      · rcases src e2 with⟨rfl,rfl,rfl⟩ | ⟨h2,e2⟩
        · rw[hloc] at l2;cases l2;simp[L0] at c2
        · obtain⟨M1,q1,_⟩:=hr.obj _ _ _ _ e1
          obtain⟨M2,q2,_⟩:=hr.obj _ _ _ _ e2
          have a1:=hle.loc _ _ _ _ q1
          have a2:=hle.loc _ _ _ _ q2
          rw[l1] at a1;cases a1
          rw[l2] at a2;cases a2
          exact hr.inj _ _ _ _ _ _ _ _ _ _ e1 e2 q1 q2 c1 c2 hne'
    · have h3:=hN r (by have:rf+1<=r:=hr';have:rf=max N (max (rg+1) (q+1)):=rfl;omega) k
      cases e:stL (bR S0 rf kk enc gs (aQ n [])) rg L r k with
      | none=>rfl
      | some x=>
        obtain⟨o,g'⟩:=x
        rcases src e with⟨h,_,_⟩ | ⟨_,e⟩
        · omega
        · rw[h3] at e;cases e
    · obtain⟨M,hM⟩:=hr.fing r k
      refine⟨max M (gs k+1),λg' hg'=>?_⟩
      show(if r=rf/\g'=gs k then some L0 else G.loc r k g')=none
      rw[if_neg (λhc=>om)]
      exact hM g' om
  have hnil:∀i z,VR G' .nil z->VR G' (.sl kk rf i (gs i) 0 0) z:=λi z hz=>by
    cases hz
    exact .sl (G:=G') kk rf i (gs i) 0 0 none L0 (hloc i) rfl zSm (by simp[L0,maxLen]) (λh=>by simp[L0] at h)
  have h2:=h1.owG (r:=rg) (k:=K) (g:=g) (o:=.arr 1 (aQ n .nil)) (o':=.arr 1 (bH rf kk gs (aQ n ([]:List α)))) (by rw[eR];exact hS)
    ⟨rfl,by simp[bH,aQ],λi hi hi'=>by
      have hin:i<(aQ n ([]:List α)).length:=by simpa[bH] using hi'
      have e1:(aQ n AV.nil)[i] = .nil:=by simp[aQ]
      have e2:(bH rf kk gs (aQ n ([]:List α)))[i] = .sl kk rf i (gs i) 0 0:=by
        simp only[bH,getElem_map,List.getElem_range,hgetD,List.length_nil]
      simp only[e1,e2]
      refine⟨rfl,λj h1 h2 z hz=>?_⟩
      have:j=0:=by simpa[AV.cells] using h1
      subst this
      exact hnil i z hz⟩
  rw[dt] at h2
  exact h2
theorem Wl.fam {α:Type} {P:Program} {n:Nat} {ops c:List Oper} {Kt:Env->St->Prop} {t:Env} {S0:St} {rg K g:Nat} {L:cq} {m:Int} (kk:Nat) (enc:α->AV) (hS:lkp L K=some (.arr 1 (aQ m .nil),g)) (hk:0<kk)
    (h:∀rf gs,rf≠rg->(∀k,S0 rf k=none)->Wl P n ops c Kt t (stL (bR S0 rf kk enc gs (aQ m [])) rg ((K,.arr 1 (bH rf kk gs (aQ m ([]:List α))),g) :: L))):Wl P n ops c Kt t (stL S0 rg L):=by
  intro hok ro G a w Q hr ht hQ
  obtain⟨rf,gs,G',h1,_,h2,h3,h4⟩:=hr.famMake rg enc hk hS
  exact h rf gs h1 h2 hok ro G' a w Q h4 (ht.mono h3) (λa w hl=>hQ a w (Gg.lift_mono hl h3))
section
variable {α:Type} {P:Program} {rg rf kk:Nat} {enc:α->AV} {gs gs':Nat->Nat} {T T':List (List α)} {t:Env} {S0:St} {L:cq} {K:AV->St->Prop} {x y a:Operand} {m:Int} {d:Option Nat} {Ty e:TypeId}
theorem cy {S:St} {k g:Nat} (hS:S rg k=some (.arr 1 (bH rf kk gs T),g)) (hs:sz P Ty=1) (ha:ae P Ty=false) (hx:ev t x = .ptr rg k g m.toNat 0) (hi:m.toNat<T.length)
    (h:K (.sl kk rf m.toNat (gs m.toNat) 0 (at' T m).length) S):vo P rg d (.load Ty x) t S K:=
  qV hS hs om (.inr ⟨ha,rfl⟩) hx (by rw[rv];exact hi) om (by rw[ha,xj hi];rfl) h
theorem AO {b g n:Nat} {xs:List α} {z:AV} (hne:rf≠rg) (hT:td P Ty = .slice e) (hb:bts P e=b) (hok:aA P e=true) (hz:zav P e=z) (hi:m.toNat<T.length) (hg:gs m.toNat=g) (hn:n=(at' T m).length) (hx:nb (stL (bR S0 rf kk enc gs T) rg L) (ev t y)=some (xs.map enc)) (hk:z.cells.length=kk) (hx0:ev t x = .sl kk rf m.toNat g 0 n)
    (hone:∀z,eO (enc z).cells=true) (hkk:∀z,(enc z).cells.length=kk) (hbd:(at' T m++xs).length*b<=140737488355328) (hb0:ble 1 b=true)
    (h:∀g,K (.sl kk rf m.toNat g 0 (at' T m++xs).length) (stL (bR S0 rf kk enc (oc gs m.toNat g) (aN T m (at' T m++xs))) rg L)) :
    vo P rg d (.call { callee:=.builtin .append,args:=#[x,y],argTypes:=#[Ty,Ty] }) t (stL (bR S0 rf kk enc gs T) rg L) K:=by
  subst hg
  exact cu (es:=at' T m) hT hb hok hz (nN hne m.toNat) hn hx hk hx0 hone hkk hbd hb0 (λg=>vK hne hi) h
theorem oD {S S':St} {k g g1 n:Nat} {l:List α} (hS:S rg k=some (.arr 1 (bH rf kk gs T),g)) (hs:sz P Ty=1) (ha:ev t a = .ptr rg k g m.toNat 0) (hx:ev t x = .sl kk rf m.toNat g1 0 n) (hi:m.toNat<T.length) (hn:n=l.length)
    (hset:S.set rg k (.arr 1 (bH rf kk (oc gs m.toNat g1) (aN T m l))) g=S') (h:K .junk S'):vo P rg d (.store Ty a x) t S K:=by
  subst hn
  rw[vo_store,ha,hx,h_]
  simp only[hS]
  have e:(bH rf kk gs T).getD m.toNat .junk = .sl kk rf m.toNat (gs m.toNat) 0 (T.getD m.toNat []).length:=xj hi
  refine⟨⟨trivial,by rw[rv];exact hi,om,by rw[hs];rfl,om,rfl⟩,?_⟩
  rw[e]
  have e2:stv (.sl kk rf m.toNat (gs m.toNat) 0 (T.getD m.toNat []).length) 0 (.sl kk rf m.toNat g1 0 l.length) = .sl kk rf m.toNat g1 0 l.length:=rfl
  rw[e2,GD]
  show K .junk (S.set rg k (.arr 1 (bH rf kk (oc gs m.toNat g1) (aN T m l))) g)
  rw[hset]
  exact h
end
theorem zP {α:Type} {R:AV->St->Prop} {v:AV} {S:St} {rf rg kk:Nat} {enc:α->AV} {gs:Nat->Nat} {T:List (List α)} {L:cq} (hne:rf≠rg) (hrf:∀k,S rf k=none) (h:cN R v (stL S rg L)):cN R v (stL (bR S rf kk enc gs T) rg L):=by
  refine cN.drop rf ?_
  have:(stL (bR S rf kk enc gs T) rg L).clear rf=stL S rg L:=by
    funext r k
    simp only[St.clear,stL,bR]
    by_cases h1:r=rf
    · subst h1;rw[if_pos rfl,if_neg hne,hrf]
    · rw[if_neg h1,if_neg h1]
  rw[this]
  exact h
theorem Rel.unfam {α:Type} {G:Ghost} {S0:St} {w:World} {rg rf K g kk:Nat} {L:cq} {enc:α->AV} {gs:Nat->Nat} {T:List (List α)} (hne:rf≠rg) (hrf:∀k,S0 rf k=none) (hr:Rel G (stL (bR S0 rf kk enc gs T) rg L) w) (hS:lkp L K=some (.arr 1 (bH rf kk gs T),g)) :
    ∃G',G.le G'/\Rel G' (stL S0 rg ((K,.arr 1 (T.map (eL enc)),g) :: L)) w:=by
  let dS:Nat->St:=λi r k=>if r=rf/\k<i then none else bR S0 rf kk enc gs T r k
  let mE:Nat->List AV:=λi=>(List.range T.length).map λj=>if j<i then eL enc (T.getD j []) else .sl kk rf j (gs j) 0 (T.getD j []).length
  have step:∀i,∃G',G.le G'/\Rel G' (stL (dS i) rg ((K,.arr 1 (mE i),g) :: L)) w:=by
    intro i
    induction i with
    | zero=>
      refine⟨G,Ghost.le.refl G,?_⟩
      have e1:dS 0=bR S0 rf kk enc gs T:=by funext r k;simp[dS]
      have e2:mE 0=bH rf kk gs T:=by simp[mE,bH]
      rw[e1,e2,<-dt]
      have:(stL (bR S0 rf kk enc gs T) rg L).set rg K (.arr 1 (bH rf kk gs T)) g=stL (bR S0 rf kk enc gs T) rg L:=by
        funext r k
        simp only[St.set]
        split
        · rename_i hc;obtain⟨rfl,rfl⟩:=hc;rw[eR,hS]
        · rfl
      rw[this]
      exact hr
    | succ i ih=>
      obtain⟨G1,q1,q2⟩:=ih
      have hSi:stL (dS i) rg ((K,.arr 1 (mE i),g) :: L) rf i=some (.arr kk ((T.getD i []).map enc),gs i):=by
        rw[kU hne]
        simp[dS,bR]
      obtain⟨G2,p1,p2,L1,a1,a2,a3,a4,a5,u,a6,a7⟩:=q2.freeze hSi
      have hst:(stL (dS i) rg ((K,.arr 1 (mE i),g) :: L)).del rf i=stL (dS (i+1)) rg ((K,.arr 1 (mE i),g) :: L):=by
        funext r k
        simp only[St.del,stL,dS]
        by_cases h1:r=rf
        · subst h1
          rw[if_neg hne]
          by_cases h2:k=i
          · subst h2;simp[hne]
          · simp only[true_and,h2,if_false,if_neg hne]
            by_cases h3:k<i
            · rw[if_pos h3,if_pos om]
            · rw[if_neg h3,if_neg om]
        · simp[h1]
      rw[hst] at p2
      refine⟨G2,q1.trans p1,?_⟩
      have h3:=p2.owG (r:=rg) (k:=K) (g:=g) (o:=.arr 1 (mE i)) (o':=.arr 1 (mE (i+1))) (by rw[eR];simp[lkp])
        ⟨rfl,by simp[mE],λj hj hj'=>by
          have g1:∀i,∀h:j<(mE i).length,(mE i)[j]=if j<i then eL enc (T.getD j []) else .sl kk rf j (gs j) 0 (T.getD j []).length:=λi h=>by simp only[mE,getElem_map,List.getElem_range]
          simp only[g1]
          by_cases h1:j<i
          · have h1':j<i+1:=om
            simp only[if_pos h1,if_pos h1']
            exact⟨trivial,λ_ _ _ z hz=>hz⟩
          · simp only[if_neg h1]
            by_cases h2:j=i
            · subst h2
              simp only[if_pos (Nat.lt_succ_self j)]
              refine⟨rfl,λq hq1 hq2 z hz=>?_⟩
              have:q=0:=by simpa[AV.cells] using hq1
              subst this
              have hz':VR G2 (.sl kk rf j (gs j) 0 (T.getD j []).length) z:=hz
              have:=ql (Ghost.le.refl G2) (p1.loc _ _ _ _ a1) a2 a3 a4 a5 u a6 a7 hz'
              have e:vI rf j (gs j) kk ((T.getD j []).map enc) (.sl kk rf j (gs j) 0 (T.getD j []).length)=eL enc (T.getD j []):=by
                simp[vI,eL,List.take_of_length_le]
              rw[e] at this
              exact this
            · have h3:¬j<i+1:=om
              simp only[if_neg h3]
              exact⟨trivial,λ_ _ _ z hz=>hz⟩⟩
      rw[dt] at h3
      have h4:stL (dS (i+1)) rg ((K,.arr 1 (mE (i+1)),g) :: (K,.arr 1 (mE i),g) :: L)=stL (dS (i+1)) rg ((K,.arr 1 (mE (i+1)),g) :: L):=by
        rw[<-dt,<-dt,<-dt]
        funext r k
        simp only[St.set]
        split<;>rfl
      rw[h4] at h3
      exact h3
  obtain⟨G1,q1,q2⟩:=step T.length
  refine⟨G1,q1,?_⟩
  have e2:mE T.length=T.map (eL enc):=by
    apply List.ext_getElem
    · simp[mE]
    · intro j h1 h2
      have hj:j<T.length:=by simpa using h2
      simp only[mE,getElem_map,List.getElem_range,if_pos hj,List.getD_eq_getElem?_getD,List.getElem?_eq_getElem hj,getD_some]
  rw[e2] at q2
  refine q2.sub ?_
  intro r k z hz
  simp only[stL] at hz ⊢
  split
  · rename_i h1;rw[if_pos h1] at hz;exact hz
  · rename_i h1
    rw[if_neg h1] at hz
    simp only[dS,bR]
    by_cases h2:r=rf
    · subst h2;rw[hrf] at hz;cases hz
    · rw[if_neg (λh=>h2 h.1),if_neg h2];exact hz
theorem EWk.unfam {α:Type} {t:Env} {S0:St} {rg rf K g kk:Nat} {L:cq} {enc:α->AV} {gs:Nat->Nat} {T:List (List α)} (hne:rf≠rg) (hrf:∀k,S0 rf k=none) (hS:lkp L K=some (.arr 1 (bH rf kk gs T),g)):EWk t (stL (bR S0 rf kk enc gs T) rg L) t (stL S0 rg ((K,.arr 1 (T.map (eL enc)),g) :: L)):=λ_ _ _ _ hr ht=>
  let ⟨G',q1,q2⟩:=hr.unfam hne hrf hS
  ⟨G',q1,q2,ht.mono q1⟩
section
variable {P:Program} {n:Nat} {ops rest:List Oper} {K:Env->St->Prop} {d:Option Nat} {ty:TypeId} {pos:String} {after:Array Edge} {t:Env} {S:St} {x:Operand}
end
end Go.Gg
namespace Go.Gg
structure GMap (V:Type) where
  n:Nat
  f:List Int->Option V
def eT {V:Type} (m:GMap V) (k:List Int):Option V:=m.f k
def mput {V:Type} (m:GMap V) (k:List Int) (v:V):GMap V:=⟨bif (m.f k).isSome then m.n else m.n+1,λq=>if q=k then some v else m.f q⟩
def ib {V:Type}:GMap V:=⟨0,λ_=>none⟩
def aC {V:Type} (enc:V->AV) (sh:KShape) (m:GMap V):GObj:=.mp sh m.n (λq=>(m.f q).map enc)
theorem AB {S:St}:fB [] S=S:=rfl
theorem ur {S S1 S2:St} {r k g:Nat} {o:GObj} {X:List WE} (h:fB X S=S1) (h':S1.set r k o g=S2):fB ((r,k,o,g) :: X) S=S2:=by
  show(fB X S).set r k o g=S2
  rw[h,h']
section
variable {P:Program} {rg:Nat} {t:Env} {K:AV->St->Prop} {V:Type} {enc:V->AV} {m:GMap V} {sh:KShape} {T kt et:TypeId} {ns:List Int}
theorem pf {S:St} {d:Option Nat} {z:V} {r k g:Nat} {x i:Operand} (hS:S r k=some (aC enc sh m,g)) (hT:td P T = .map kt et) (hk:dW P kt=some sh) (hok:aA P et=true) (hz:zav P et=enc z) (hx:ev t x = .map r k g) (hi:iE sh (ev t i)=some ns)
    (h:K (.tuple [enc ((eT m ns).getD z),.bool (eT m ns).isSome]) S):vo P rg d (.lookup T x i true) t S K:=by
  rw[vo_lookup,hx]
  simp only[gD,hS,aC,hT,hi]
  refine⟨⟨trivial,hk,hok⟩,?_⟩
  rw[hz]
  unfold eT at h
  cases hm:m.f ns<;>rw[hm] at h<;>exact h
theorem rT {S:St} {d:Option Nat} {z:V} {r k g:Nat} {x i:Operand} (hS:S r k=some (aC enc sh m,g)) (hT:td P T = .map kt et) (hk:dW P kt=some sh) (hok:aA P et=true) (hz:zav P et=enc z) (hx:ev t x = .map r k g) (hi:iE sh (ev t i)=some ns)
    (h:K (enc ((eT m ns).getD z)) S):vo P rg d (.lookup T x i false) t S K:=by
  rw[vo_lookup,hx]
  simp only[gD,hS,aC,hT,hi]
  refine⟨⟨trivial,hk,hok⟩,?_⟩
  rw[hz]
  unfold eT at h
  cases hm:m.f ns<;>rw[hm] at h<;>exact h
theorem Ge {S:St} {d:Option Nat} {r k g:Nat} {x:Operand} (hS:S r k=some (aC enc sh m,g)) (hT:td P T = .map kt et) (hx:ev t x = .map r k g) (h:K (.int .i64 m.n) S):vo P rg d (.call { callee:=.builtin .len,args:=#[x],argTypes:=#[T] }) t S K:=by
  rw[vo_len,hx]
  simp only[ik,hS,aC,hT]
  exact⟨trivial,h⟩
theorem zE {v:V}:aC enc sh (mput m ns v) = .mp sh (bif ((m.f ns).map enc).isSome then m.n else m.n+1) (λq=>if q=ns then some (enc v) else (m.f q).map enc):=by
  unfold aC mput
  congr 1
  · cases m.f ns<;>rfl
  · funext q
    by_cases h:q=ns
    · simp[h]
    · simp[h]
theorem oE {S S':St} {d:Option Nat} {v:V} {r k g:Nat} {y i x:Operand} (hS:S r k=some (aC enc sh m,g)) (hT:td P T = .map kt et) (hk:dW P kt=some sh) (hy:ev t y = .map r k g) (hi:iE sh (ev t i)=some ns) (hx:ev t x=enc v)
    (hp:S.set r k (aC enc sh (mput m ns v)) g=S') (h:K .junk S'):vo P rg d (.mapUpdate T y i x) t S K:=by
  rw[vo_mapUpd,hy]
  have hS':S r k=some (.mp sh m.n (λq=>(m.f q).map enc),g):=hS
  simp only[eP,hS',hT,hi]
  refine⟨⟨trivial,hk⟩,?_⟩
  rw[hx,<-zE,hp]
  exact h
theorem zw {S S':St} {d:Option Nat} {v:V} {r k g:Nat} {y i x:Operand} (hS:S r k=some (aC enc sh m,g)) (hT:td P T = .map kt et) (hk:dW P kt=some sh) (hy:ev t y = .map r k g) (hi:iE sh (ev t i)=some ns) (hx:ev t x=enc v)
    (hp:S.set r k (aC enc sh (mput m ns v)) g=S') (h:K .junk S'):vo P rg d (.insert T y i x) t S K:=by
  rw[vo_insert,hy]
  have hS':S r k=some (.mp sh m.n (λq=>(m.f q).map enc),g):=hS
  simp only[eP,hS',hT,hi]
  refine⟨⟨trivial,hk⟩,?_⟩
  rw[hx,<-zE,hp]
  exact h
theorem mR {S0:St} {L:cq} {d:Nat} {hint:Option Operand} (hT:td P T = .map kt et) (hk:dW P kt=some sh) (hh:(match hint.map (ev t) with | none=>True | some (.int _ _)=>True | _=>False))
    (h:∀g,K (.map rg d g) (stL S0 rg ((d,aC enc sh ib,g) :: L))):vo P rg (some d) (.makeMap T hint) t (stL S0 rg L) K:=by
  rw[vo_makeMap]
  simp only[kP,hT,hk]
  refine⟨hh,λg=>?_⟩
  have:=h g
  rw[<-bY (o:=aC enc sh ib)] at this
  exact this
theorem RX {S:St} {d:Option Nat} {k:IntKind} {a b c:Int} {x y z:Operand} {ts:Array TypeId} (hx:ev t x = .int k a) (hy:ev t y = .int k b) (hz:ev t z = .int k c) (h:K (.int k (min (min a b) c)) S):vo P rg d (.call { callee:=.builtin .min,args:=#[x,y,z],argTypes:=ts }) t S K:=by
  show(match ev t x,ev t y,ev t z with | .int k m,.int _ n,.int _ q=>K (.int k (if q<(if n<m then n else m) then q else (if n<m then n else m))) S | _,_,_=>False)
  rw[hx,hy,hz]
  have e1:(if b<a then b else a)=min a b:=by split<;>omega
  have e2:(if c<min a b then c else min a b)=min (min a b) c:=by split<;>omega
  simp only[e1,e2];exact h
theorem Gk {S:St} {d:Option Nat} {n len s:Nat} {e:TypeId} {z v:AV} {parts:List (Nat×Operand)} {ps:List (Nat×AV)} (hT:td P T = .array len e) (hz:zav P T=z) (hok:aA P T=true) (hg:fA z=true) (hs:sz P e=s) (h0:0<s) (hsT:sz P T=n) (hp:parts.map (λp=>(p.1,ev t p.2))=ps)
    (hc:(ps.all λp=>p.2.solid && (beq p.2.cells.length s && ble (p.1*s+p.2.cells.length) n))=true) (hv:ps.foldl (λv p=>stv v (p.1*s) p.2) z=v) (h:K v S):vo P rg d (.build T parts.toArray) t S K:=by
  rw[vo_build,kQ,hT]
  simp only[]
  refine⟨by rw[hok,hz,hg,hs];simpa using h0,?_,?_⟩
  · rw[hp]
    rw[List.all_eq_true] at hc ⊢
    intro p hm
    have:=hc p hm
    simp only[Bool.and_eq_true,Nat.ble_eq] at this
    obtain⟨a1,a2,a3⟩:=this
    simp only[Bool.and_eq_true,beq_iff_eq,decide_eq_true_eq]
    exact⟨⟨a1,by rw[hs];exact Nat.eq_of_beq_eq_true a2⟩,by rw[hs,hsT];exact a3⟩
  · rw[hp,hz,hs,hv];exact h
end
def AL (G:Ghost) (a:(Nat×Nat×Nat)×(Nat×Nat×Nat)):Prop:=∃L,G.loc a.1.1 a.1.2.1 a.1.2.2=some L/\G.loc a.2.1 a.2.2.1 a.2.2.2=some L
theorem AL.mono {G G':Ghost} {a:(Nat×Nat×Nat)×(Nat×Nat×Nat)} (h:AL G a) (hg:G.le G'):AL G' a:=let ⟨L,p,q⟩:=h;⟨L,hg.loc _ _ _ _ p,hg.loc _ _ _ _ q⟩
abbrev ALs:=List ((Nat×Nat×Nat)×(Nat×Nat×Nat))
abbrev Mv:=Nat×Nat×GObj×Nat
def mvX (q:Nat) (γ:Nat->Nat):List Mv->Nat->na
  | [],_=>[]
  | m :: M,i=>(q,m.2.2.2,m.2.2.1,γ i) :: mvX q γ M (i+1)
def mvA (rg q:Nat) (γ:Nat->Nat):List Mv->Nat->ALs
  | [],_=>[]
  | m :: M,i=>((rg,m.1,m.2.1),(q,m.2.2.2,γ i)) :: mvA rg q γ M (i+1)
def H1 (l:cq):List Mv->Prop
  | []=>True
  | m :: M=>lkp l m.1=some (m.2.2.1,m.2.1)/\(M.all λx=>!(beq x.1 m.1))=true/\H1 l M
theorem zB {l:cq}:∀ {M:List Mv} {m:Mv},H1 l M->m∈M->lkp l m.1=some (m.2.2.1,m.2.1)
  | _ :: _,_,h,hm=>by
    rcases List.mem_cons.1 hm with rfl | hm
    · exact h.1
    · exact zB h.2.2 hm
theorem w_ {q:Nat} {γ γ':Nat->Nat}:∀ {M:List Mv} {i:Nat},(∀j,i<=j->γ j=γ' j)->mvX q γ M i=mvX q γ' M i
  | [],_,_=>rfl
  | m :: M,i,h=>by rw[mvX,mvX,h i (Nat.le_refl _),w_ (M:=M) (i:=i+1) (λj hj=>h j om)]
theorem xa {rg q:Nat} {γ γ':Nat->Nat}:∀ {M:List Mv} {i:Nat},(∀j,i<=j->γ j=γ' j)->mvA rg q γ M i=mvA rg q γ' M i
  | [],_,_=>rfl
  | m :: M,i,h=>by rw[mvA,mvA,h i (Nat.le_refl _),xa (M:=M) (i:=i+1) (λj hj=>h j om)]
theorem B5 {S:St} {rg q r k g:Nat} {γ:Nat->Nat} {o:GObj}:∀ {M:List Mv} {i:Nat},stX S (mvX q γ M i) r k=some (o,g)->S r k=some (o,g)\/∃m∈M,r=q/\k=m.2.2.2/\o=m.2.2.1/\((rg,m.1,m.2.1),(q,k,g))∈mvA rg q γ M i
  | [],_,h=>.inl h
  | m :: M,i,h=>by
    simp only[mvX,stX,St.set] at h
    split at h
    · rename_i hc
      cases h
      exact .inr ⟨m,by simp,hc.1,hc.2,rfl,by rw[hc.2];simp[mvA]⟩
    · rcases B5 (M:=M) h with h | ⟨m',h1,h2,h3,h4,h5⟩
      · exact .inl h
      · exact .inr ⟨m',by simp[h1],h2,h3,h4,by rw[mvA];exact List.mem_cons_of_mem _ h5⟩
theorem Rel.movesOut {G:Ghost} {S:St} {w:World} {rg:Nat} {l:cq} (h:Rel G (stL S rg l) w) (hrg:∀k,S rg k=none) (q:Nat):∀(M:List Mv) (i:Nat),H1 l M->
    ∃(γ:Nat->Nat) (G':Ghost),G.le G'/\G'.imm=G.imm/\Rel G' (stX S (mvX q γ M i)) w/\∀a∈mvA rg q γ M i,AL G' a
  | [],i,_=>⟨λ_=>0,G,Ghost.le.refl G,rfl,h.sub (λr k x e=>by
      have hne:r≠rg:=by rintro rfl;rw[show stX S (mvX q (λ_=>0) [] i)=S from rfl,hrg] at e;cases e
      rw[kU hne];exact e),λa ha=>by simp[mvA] at ha⟩
  | m :: M,i,hM=>by
    obtain⟨γ,G1,le1,im1,rel1,al1⟩:=Rel.movesOut h hrg q M (i+1) hM.2.2
    obtain⟨k0,g,o,k⟩:=m
    obtain⟨g',hg'⟩:=rel1.fresh q k
    obtain⟨L,hL,hobj,hown⟩:=h.obj rg k0 o g (by rw[eR];exact hM.1)
    have hL1:=le1.loc _ _ _ _ hL
    let G':Ghost:={ G1 with loc:=λr2 k2 g2=>if r2=q/\k2=k/\g2=g' then some L else G1.loc r2 k2 g2 }
    have hle:G1.le G':=by
      refine⟨⟨rfl,λ_ h=>h,rfl⟩,λ_ _ _ e=>e,λr2 k2 g2 L2 e=>?_⟩
      show(if r2=q/\k2=k/\g2=g' then some L else G1.loc r2 k2 g2)=some L2
      split
      · rename_i hc;obtain⟨rfl,rfl,rfl⟩:=hc;rw[hg'] at e;cases e
      · exact e
    have hloc:G'.loc q k g'=some L:=by
      show(if q=q/\k=k/\g'=g' then some L else _)=_
      rw[if_pos ⟨rfl,rfl,rfl⟩]
    have hγ:∀j,i+1<=j->γ j=(λj=>if j=i then g' else γ j) j:=λj hj=>by simp only;rw[if_neg om]
    have hlow:∀ {r2 k2 o2 g2},S r2 k2=some (o2,g2)->stL S rg l r2 k2=some (o2,g2)/\r2≠rg:=λ{r2 k2 o2 g2} e=>by
      have hne:r2≠rg:=by rintro rfl;rw[hrg] at e;cases e
      exact⟨by rw[kU hne];exact e,hne⟩
    have apart:∀ {r2 k2 o2 g2 L2},stX S (mvX q γ M (i+1)) r2 k2=some (o2,g2)->G1.loc r2 k2 g2=some L2->0<L.cap->0<L2.cap->L.block≠L2.block:=by
      intro r2 k2 o2 g2 L2 e l2 c1 c2
      rcases B5 (rg:=rg) e with e | ⟨m',h1,rfl,rfl,rfl,h5⟩
      · obtain⟨e1,hne⟩:=hlow e
        obtain⟨L3,q1,_⟩:=h.obj _ _ _ _ e1
        rw[le1.loc _ _ _ _ q1] at l2
        cases l2
        exact h.inj rg k0 o g r2 k2 o2 g2 _ _ (by rw[eR];exact hM.1) e1 hL q1 c1 c2 (λhc=>hne hc.1.symm)
      · obtain⟨L3,a1,a2⟩:=al1 _ h5
        simp only at a1 a2
        rw[a2] at l2
        cases l2
        have hm':=zB hM.2.2 h1
        obtain⟨L4,q1,_⟩:=h.obj rg m'.1 m'.2.2.1 m'.2.1 (by rw[eR];exact hm')
        rw[le1.loc _ _ _ _ q1] at a1
        cases a1
        have hk:m'.1≠k0:=by
          have:=List.all_eq_true.1 hM.2.1 m' h1
          intro hc
          rw[hc] at this
          simp at this
        exact h.inj rg k0 o g rg m'.1 m'.2.2.1 m'.2.1 _ _ (by rw[eR];exact hM.1) (by rw[eR];exact hm') hL q1 c1 c2 (λhc=>hk hc.2.symm)
    refine⟨λj=>if j=i then g' else γ j,G',le1.trans hle,im1,?_,?_⟩
    · show Rel G' ((stX S (mvX q _ M (i+1))).set q k o (if i=i then g' else γ i)) w
      rw[<-w_ hγ,if_pos rfl]
      have src:∀ {r2 k2 o2 g2 L2},((stX S (mvX q γ M (i+1))).set q k o g') r2 k2=some (o2,g2)->G'.loc r2 k2 g2=some L2->(r2=q/\k2=k/\L2=L)\/(¬(r2=q/\k2=k)/\stX S (mvX q γ M (i+1)) r2 k2=some (o2,g2)/\G1.loc r2 k2 g2=some L2):=by
        intro r2 k2 o2 g2 L2 e l2
        simp only[St.set] at e
        split at e
        · rename_i hc;obtain⟨rfl,rfl⟩:=hc;cases e;rw[hloc] at l2;exact .inl ⟨rfl,rfl,(Option.some.inj l2).symm⟩
        · rename_i hc
          obtain⟨L3,q1,_⟩:=rel1.obj _ _ _ _ e
          have:=hle.loc _ _ _ _ q1
          rw[this] at l2
          cases l2
          exact .inr ⟨hc,e,q1⟩
      refine⟨rel1.below,rel1.imm,?_,?_,?_,?_⟩
      · intro r2 k2 o2 g2 e
        simp only[St.set] at e
        split at e
        · rename_i hc;obtain⟨rfl,rfl⟩:=hc;cases e
          refine⟨L,hloc,hobj.keep (le1.trans hle) (λ_=>rfl),λhc=>?_⟩
          have h1:=hown hc
          exact⟨by rw[show G'.init=G1.init from rfl,le1.init.1];exact h1.1,λx=>by rw[show G'.imm=G1.imm from rfl,im1];exact h1.2 x⟩
        · obtain⟨L2,q1,q2,q3⟩:=rel1.obj _ _ _ _ e
          exact⟨L2,hle.loc _ _ _ _ q1,q2.keep hle (λ_=>rfl),q3⟩
      · intro r1 k1 o1 g1 r2 k2 o2 g2 L1 L2 e1 e2 l1 l2 c1 c2 hne
        rcases src e1 l1 with⟨rfl,rfl,rfl⟩ | ⟨hn1,f1,m1⟩
        · rcases src e2 l2 with⟨rfl,rfl,rfl⟩ | ⟨hn2,f2,m2⟩
          · exact absurd ⟨rfl,rfl⟩ hne
          · exact apart f2 m2 c1 c2
        · rcases src e2 l2 with⟨rfl,rfl,rfl⟩ | ⟨hn2,f2,m2⟩
          · exact(apart f1 m1 c2 c1).symm
          · exact rel1.inj _ _ _ _ _ _ _ _ _ _ f1 f2 m1 m2 c1 c2 hne
      · obtain⟨N,hN⟩:=rel1.fin
        refine⟨max N (q+1),λr2 hr k2=>?_⟩
        simp only[St.set]
        rw[if_neg (λhc=>om)]
        exact hN r2 om k2
      · intro r2 k2
        obtain⟨N,hN⟩:=rel1.fing r2 k2
        refine⟨max N (g'+1),λg2 hg2=>?_⟩
        show(if r2=q/\k2=k/\g2=g' then some L else G1.loc r2 k2 g2)=none
        rw[if_neg (λhc=>om)]
        exact hN g2 om
    · intro a ha
      rw[mvA] at ha
      rcases List.mem_cons.1 ha with rfl | ha
      · exact⟨L,hle.loc _ _ _ _ hL1,by simp only[if_pos];exact hloc⟩
      · rw[<-xa hγ] at ha
        exact(al1 a ha).mono hle
def RN (A:ALs) (c c':AV):Prop:=∀(G:Ghost) (x:Value),(∀a∈A,AL G a)->VR G c x->VR G c' x
theorem nu {A:ALs} {c:AV}:RN A c c:=λ_ _ _ h=>h
theorem abB {A:ALs} {r k g r' k' g' j off:Nat} (i:Nat) (h:A[i]? = some ((r,k,g),(r',k',g'))):RN A (.ptr r k g j off) (.ptr r' k' g' j off):=λG x hA hv=>by
  obtain⟨L,a1,a2⟩:=hA _ (List.mem_of_getElem? h)
  cases hv with
  | ptr _ _ _ _ _ L' h1=>simp only at a1;rw[a1] at h1;cases h1;exact .ptr _ _ _ _ _ _ a2
theorem Xm {A:ALs} {r k g r' k' g':Nat} (i:Nat) (h:A[i]? = some ((r,k,g),(r',k',g'))):RN A (.map r k g) (.map r' k' g'):=λG x hA hv=>by
  obtain⟨L,a1,a2⟩:=hA _ (List.mem_of_getElem? h)
  cases hv with
  | map _ _ _ L' h1=>simp only at a1;rw[a1] at h1;cases h1;exact .map _ _ _ _ a2
theorem CL {A:ALs} {kk r k g r' k' g' off n:Nat} (i:Nat) (h:A[i]? = some ((r,k,g),(r',k',g'))):RN A (.sl kk r k g off n) (.sl kk r' k' g' off n):=λG x hA hv=>by
  obtain⟨L,a1,a2⟩:=hA _ (List.mem_of_getElem? h)
  cases hv with
  | sl _ _ _ _ _ _ a L' h1 h2 h3 h4 h5=>simp only at a1;rw[a1] at h1;cases h1;exact .sl _ _ _ _ _ _ _ _ a2 h2 h3 h4 h5
theorem Xk {A:ALs} {c c':AV} (h:VW c c'):RN A c c':=λG x _ hv=>h G x hv
theorem Xl {A:ALs} {a b c:AV} (h:RN A a b) (h':RN A b c):RN A a c:=λG x hA hv=>h' G x hA (h G x hA hv)
def RNL (A:ALs):List AV->List AV->Prop
  | [],[]=>True
  | c :: l,c' :: l'=>RN A c c'/\RNL A l l'
  | _,_=>False
theorem abC {A:ALs}:RNL A [] []:=trivial
theorem FM {A:ALs} {c c':AV} {l l':List AV} (h:RN A c c') (h':RNL A l l'):RNL A (c :: l) (c' :: l'):=⟨h,h'⟩
theorem RNL.len {A:ALs}:∀ {l l':List AV},RNL A l l'->l.length=l'.length
  | [],[],_=>rfl
  | _ :: _,_ :: _,h=>by simp[RNL.len h.2]
  | [],_ :: _,h=>h.elim
  | _ :: _,[],h=>h.elim
theorem RNL.at {A:ALs}:∀ {l l':List AV} {i:Nat} {c c':AV},RNL A l l'->l[i]? = some c->l'[i]? = some c'->RN A c c'
  | _ :: _,_ :: _,0,_,_,h,h1,h2=>by simp at h1 h2;subst h1;subst h2;exact h.1
  | _ :: _,_ :: _,i+1,_,_,h,h1,h2=>RNL.at h.2 (by simpa using h1) (by simpa using h2)
  | [],_,_,_,_,_,h1,_=>by simp at h1
  | _ :: _,[],_,_,_,h,_,_=>h.elim
def RO (A:ALs) (o o':GObj):Prop:=∀(G:Ghost) (w:World) (L:Loc),(∀a∈A,AL G a)->iQ G w L o->iQ G w L o'
theorem CK {A:ALs} {o:GObj}:RO A o o:=λ_ _ _ _ h=>h
theorem abA {A:ALs} {kk:Nat} {a b:AV} (h:RNL A a.cells b.cells):RO A (.arr kk [a]) (.arr kk [b]):=λG w L hA ho=>by
  obtain⟨h1,h2,h3,h3',h4,h5⟩:=ho
  refine⟨h1,h2,h3,h3',λi hi=>?_,λhc=>?_⟩
  · have:i=0:=by simpa using hi
    subst this
    have:=h4 0 zSm
    simp only[getElem_cons_zero] at this ⊢
    rw[<-h.len];exact this
  · obtain⟨row,a1,a2,a3⟩:=h5 hc
    refine⟨row,a1,a2,λi hi j hj=>?_⟩
    have:i=0:=by simpa using hi
    subst this
    simp only[getElem_cons_zero] at hj ⊢
    obtain⟨z,z1,z2⟩:=a3 0 zSm j (by simp only[getElem_cons_zero];rw[h.len];exact hj)
    simp only[getElem_cons_zero] at z2
    exact⟨z,z1,h.at (List.getElem?_eq_getElem (by rw[h.len];exact hj)) (List.getElem?_eq_getElem hj) G z hA z2⟩
def ROX (A:ALs):na->na->Prop
  | [],[]=>True
  | x :: X,y :: Y=>(x.1=y.1/\x.2.1=y.2.1/\x.2.2.2=y.2.2.2)/\RO A x.2.2.1 y.2.2.1/\ROX A X Y
  | _,_=>False
theorem Xj {A:ALs}:ROX A [] []:=trivial
theorem CJ {A:ALs} {r k g:Nat} {o o':GObj} {X Y:na} (h:RO A o o') (h':ROX A X Y):ROX A ((r,k,o,g) :: X) ((r,k,o',g) :: Y):=⟨⟨rfl,rfl,rfl⟩,h,h'⟩
theorem BM {A:ALs} {S:St} {r k g:Nat} {o':GObj}:∀ {X Y:na},ROX A X Y->stX S Y r k=some (o',g)->∃o,stX S X r k=some (o,g)/\RO A o o'
  | [],[],_,h=>⟨o',h,CK⟩
  | [],_ :: _,h,_=>h.elim
  | _ :: _,[],h,_=>h.elim
  | (r1,k1,o1,g1) :: X,(r2,k2,o2,g2) :: Y,h,e=>by
    obtain⟨⟨a,b,c⟩,ho,h'⟩:=h
    simp only at a b c ho
    subst a;subst b;subst c
    simp only[stX,St.set] at e ⊢
    split at e
    · rename_i hc;cases e;exact⟨o1,by rw[if_pos hc],ho⟩
    · rename_i hc
      obtain⟨o,h1,h2⟩:=BM h' e
      exact⟨o,by rw[if_neg hc];exact h1,h2⟩
theorem vG {R:AV->St->Prop} {v:AV} {S:St} {rg:Nat} {l:cq} (q:Nat) (hrg:∀k,S rg k=none) (M:List Mv) (hM:H1 l M) (v':(Nat->Nat)->AV) (X:(Nat->Nat)->na)
    (hX:∀γ,ROX (mvA rg q γ M 0) (mvX q γ M 0) (X γ)) (hv:∀γ,RN (mvA rg q γ M 0) v (v' γ)) (h:∀γ,R (v' γ) (stX S (X γ))):cN R v (stL S rg l):=λG w x hr hx=>by
  obtain⟨γ,G',a1,_,a3,a4⟩:=hr.movesOut hrg q M 0 hM
  refine⟨_,_,G',h γ,a1,a3.remap λr k o' g e=>?_,hv γ G' x a4 (hx.mono a1)⟩
  obtain⟨o,e1,e2⟩:=BM (hX γ) e
  refine⟨o,e1,λL hL=>?_⟩
  obtain⟨L',hL',hobj,_⟩:=a3.obj _ _ _ _ e1
  obtain rfl:L'=L:=by rw[hL] at hL';exact(Option.some.inj hL').symm
  exact e2 G' w L' a4 hobj
end Go.Gg
