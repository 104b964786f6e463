/- An own logic over the kit's weakest preconditions, part T: rows within boxes, closures. Conditions: none. -/
import Derived.Test.YtaphmailhjfiaaaGc
namespace Go.Gg
def OWG (G:Ghost):GObj->GObj->Prop
  | .arr kk es,.arr kk' es'=>kk=kk'/\es.length=es'.length/\∀i (h:i<es.length) (h':i<es'.length),es[i].cells.length=es'[i].cells.length/\∀j (h1:j<es[i].cells.length) (h2:j<es'[i].cells.length) z,VR G es[i].cells[j] z->VR G es'[i].cells[j] z
  | _,_=>False
theorem Rel.owG {G:Ghost} {S:St} {w:World} (h:Rel G S w) {r k g:Nat} {o o':GObj} (hS:S r k=some (o,g)) (ho:OWG G o o'):Rel G (S.set r k o' g) w:=by
  refine h.remap λr' k' o2 g2 e=>?_
  simp only[St.set] at e
  split at e
  · rename_i hc
    obtain⟨rfl,rfl⟩:=hc
    cases e
    refine⟨o,hS,λL hL=>?_⟩
    obtain⟨L',hL',hobj,_⟩:=h.obj _ _ _ _ hS
    obtain rfl:L'=L:=by rw[hL] at hL';exact(Option.some.inj hL').symm
    cases o with
    | mp=>exact ho.elim
    | lp=>exact ho.elim
    | arr kk es=>
    cases o' with
    | mp=>exact ho.elim
    | lp=>exact ho.elim
    | arr kk' es'=>
    obtain⟨rfl,hl,hv⟩:=ho
    obtain⟨h1,h2,h3,h3',h4,h5⟩:=hobj
    refine⟨h1,h2,by omega,h3',λi hi=>?_,λhc=>?_⟩
    · rw[<-(hv i om hi).1];exact h4 i om
    · obtain⟨row,a1,a2,a3⟩:=h5 hc
      refine⟨row,a1,a2,λi hi j hj=>?_⟩
      have hvi:=hv i om hi
      obtain⟨z,z1,z2⟩:=a3 i om j (by rw[hvi.1];exact hj)
      exact⟨z,z1,hvi.2 j _ hj z z2⟩
  · exact⟨o2,e,λL hL=>by
      obtain⟨L',hL',hobj,_⟩:=h.obj _ _ _ _ e
      obtain rfl:L'=L:=by rw[hL] at hL';exact(Option.some.inj hL').symm
      exact hobj⟩
theorem Vc.matB {P:Program} {n:Nat} {c:Code} {Q:AK} {t:Env} {S0:St} {rg:Nat} {l:cp} {a:AV} {b:Nat->AV} {kk g0:Nat} (k0 i k k1:Nat) (hS:lkp l k0=some (.arr kk [a],g0)) (hc:a.cells[i]? = some .nil) (hk:0<k1) (hne:k≠k0)
    (hb:(λg=>(b g).cells)=λg=>a.cells.set i (.sl k1 rg k g 0 0)) (h:∀g,Vc P n c Q t (stL S0 rg ((k0,.arr kk [b g],g0) :: (k,.arr k1 [],g) :: l))):Vc P n c Q t (stL S0 rg l):=by
  intro ro hok G w0 w hr ht
  obtain⟨g,G',q1,q2,q3⟩:=hr.mat rg k k1 hk
  have hS2:((stL S0 rg l).set rg k (.arr k1 []) g) rg k0=some (.arr kk [a],g0):=by
    simp only[St.set]
    rw[if_neg (λhh=>hne hh.2.symm),eF]
    exact hS
  have hcb:(b g).cells=a.cells.set i (.sl k1 rg k g 0 0):=congrFun hb g
  have q4:=q2.owG (o':=.arr kk [b g]) hS2 ⟨rfl,rfl,λx h1 h2=>by
    have:x=0:=by simpa using h1
    subst this
    simp only[List.getElem_cons_zero]
    refine⟨by rw[hcb,List.length_set],λj h3 h4 z hz=>?_⟩
    have e:(b g).cells[j]=(a.cells.set i (.sl k1 rg k g 0 0))[j]'(by rw[List.length_set];exact h3):=by simp only[hcb]
    rw[e,List.getElem_set]
    split
    · rename_i hij
      subst hij
      rw[List.getElem?_eq_getElem h3] at hc
      rw[Option.some.inj hc] at hz
      cases hz
      exact q3
    · exact hz⟩
  rw[fC,fC] at q4
  exact wpIn_mono (h g ro hok G' w0 w q4 (ht.mono q1)) (λ_ _ _ he=>AK.lift_mono q1 he)
end Go.Gg
namespace Go.Gg
theorem dT:DK []:=trivial
theorem bj {p:Nat×Nat} {X:List (Nat×Nat)} (h:∀q∈X,¬(q.1=p.1/\q.2=p.2)) (h':DK X):DK (p :: X):=⟨h,h'⟩
theorem bg {p:Nat×Nat}:∀q∈([]:List (Nat×Nat)),¬(q.1=p.1/\q.2=p.2):=λ_ h=>by simp at h
theorem bn {p q:Nat×Nat} {X:List (Nat×Nat)} (h:¬(q.1=p.1/\q.2=p.2)) (h':∀q∈X,¬(q.1=p.1/\q.2=p.2)):∀q'∈q :: X,¬(q'.1=p.1/\q'.2=p.2):=λq' hq=>by
  rcases List.mem_cons.1 hq with e | e
  · subst e;exact h
  · exact h' q' e
theorem lI {r r' a b:Nat} (h:Nat.beq b a=false):¬(((r,b):Nat×Nat).1=((r',a):Nat×Nat).1/\((r,b):Nat×Nat).2=((r',a):Nat×Nat).2):=λhh=>og h hh.2
theorem a9 {p q:Nat×Nat}:∀ {X:List (Nat×Nat)} (i j:Nat),DK X->Nat.ble (i+1) j=true->X[i]? = some p->X[j]? = some q->¬(q.1=p.1/\q.2=p.2)
  | [],i,_,_,_,h,_=>by simp at h
  | _ :: _,0,0,_,hij,_,_=>by simp at hij
  | x :: X,0,j+1,hd,_,h1,h2=>by
    simp at h1;subst h1
    exact hd.1 q (List.mem_of_getElem? (by simpa using h2))
  | x :: X,i+1,0,_,hij,_,_=>by simp at hij
  | x :: X,i+1,j+1,hd,hij,h1,h2=>a9 i j hd.2 (by simpa using hij) (by simpa using h1) (by simpa using h2)
theorem bK {S:St}:stX S []=S:=rfl
theorem aC {S:St} {r k g:Nat} {o:GObj} {X:iC} (h:S r k=some (o,g)) (h':stX S X=S):stX S ((r,k,o,g) :: X)=S:=by
  show(stX S X).set r k o g=S
  rw[h']
  funext a b
  simp only[St.set]
  split
  · rename_i hc;obtain⟨rfl,rfl⟩:=hc;exact h.symm
  · rfl
theorem d9 {S S1 S2:St} {r k g:Nat} {o:GObj} {X:iC} (h:stX S X=S1) (h':S1.set r k o g=S2):stX S ((r,k,o,g) :: X)=S2:=by
  show(stX S X).set r k o g=S2
  rw[h,h']
theorem EWk.owX {t:Env} {S:St} {rg r k g:Nat} {X X':iC} {l:cp} {o o':GObj} (hne:r≠rg) (hd:DX X) (i:Nat) (h:X[i]? = some (r,k,o,g)) (hX:X.set i (r,k,o',g)=X') (ho:OW o o'):EWk t (stL (stX S X) rg l) t (stL (stX S X') rg l):=λn G a w hr ht=>
  ⟨G,Ghost.le.refl G,by rw[<-cE (l:=l) hne hd i h hX];exact hr.ow (atX hne hd i h) ho,ht⟩
theorem rL {R:AV->St->Prop} {v:AV} {S:St} {rg r k g:Nat} {X X':iC} {l:cp} {o o':GObj} (hne:r≠rg) (hd:DX X) (i:Nat) (h:X[i]? = some (r,k,o,g)) (hX:X.set i (r,k,o',g)=X') (ho:OW o o')
    (hg:cT R v (stL (stX S X') rg l)):cT R v (stL (stX S X) rg l):=λG w x hr hv=>hg G w x (by rw[<-cE (l:=l) hne hd i h hX];exact hr.ow (atX hne hd i h) ho) hv
theorem Wl.matB {P:Program} {n:Nat} {ops c:List Oper} {K:Env->St->Prop} {t:Env} {S0:St} {rg:Nat} {l:cp} {a:AV} {b:Nat->AV} {kk g0:Nat} (k0 i k k1:Nat) (hS:lkp l k0=some (.arr kk [a],g0)) (hc:a.cells[i]? = some .nil) (hk:0<k1) (hne:k≠k0)
    (hb:(λg=>(b g).cells)=λg=>a.cells.set i (.sl k1 rg k g 0 0)) (h:∀g,Wl P n ops c K t (stL S0 rg ((k0,.arr kk [b g],g0) :: (k,.arr k1 [],g) :: l))):Wl P n ops c K t (stL S0 rg l):=by
  intro hok ro G w0 w Q hr ht hQ
  obtain⟨g,G',q1,q2,q3⟩:=hr.mat rg k k1 hk
  have hS2:((stL S0 rg l).set rg k (.arr k1 []) g) rg k0=some (.arr kk [a],g0):=by
    simp only[St.set]
    rw[if_neg (λhh=>hne hh.2.symm),eF]
    exact hS
  have hcb:(b g).cells=a.cells.set i (.sl k1 rg k g 0 0):=congrFun hb g
  have q4:=q2.owG (o':=.arr kk [b g]) hS2 ⟨rfl,rfl,λx h1 h2=>by
    have:x=0:=by simpa using h1
    subst this
    simp only[List.getElem_cons_zero]
    refine⟨by rw[hcb,List.length_set],λj h3 h4 z hz=>?_⟩
    have e:(b g).cells[j]=(a.cells.set i (.sl k1 rg k g 0 0))[j]'(by rw[List.length_set];exact h3):=by simp only[hcb]
    rw[e,List.getElem_set]
    split
    · rename_i hij
      subst hij
      rw[List.getElem?_eq_getElem h3] at hc
      rw[Option.some.inj hc] at hz
      cases hz
      exact q3
    · exact hz⟩
  rw[fC,fC] at q4
  exact h g hok ro G' w0 w Q q4 (ht.mono q1) (λa w hl=>hQ a w (Gg.lift_mono hl q1))
theorem ag {l:List Key} {S S':St} {r k:Nat} {x:GObj×Nat} (h:bx l S' S) (i:Nat) (hi:l[i]? = some (r,k)) (hS:S r k=some x):S' r k=some x:=(h (r,k) (List.mem_of_getElem? hi)).trans hS
theorem dCE {P:Program} {rg:Nat} {us:Nat->CR2} {ops rest:List Oper} {d:Option Nat} {ty:TypeId} {pos:String} {after:Array Edge} {j:Nat} {log:Log} {t:Env} {S:St} {K:Env->St->Prop} {f:Operand} {xs:List Operand} {ts:Array TypeId} {g:FuncId} {fs caps vs:List AV}
    {V:Gen->AV} {rd wk:List Key} {wr:Gen->List WE} (hf:ev t f = .fn (.func g) fs caps) (ha:VWL (fs++(xs.map (ev t)++caps)) vs) (hu:us j=wc V rd wk wr) (hcf:cf ops log j (rd,wk)) (hne:(rd,wk)≠(([],[]):jb)) (hk:∀γ,(wr γ).map (λx=>(x.1,x.2.1))=wk)
    (hc:∀S',bx rd S' S->bx wk S' S->Ctr P g vs S' (λv S''=>∃γ,v=V γ/\S''=eJ (wr γ) S'))
    (h:∀γ,vdT P rg us ops rest (j+1) ((j,(rd,wk)) :: log) (b9 t d (V γ)) (eJ (wr γ) S) K):vdT P rg us ops (⟨d,.call { callee:=.value f,args:=xs.toArray,argTypes:=ts },ty,pos,after,none⟩ :: rest) j log t S K:=by
  rw[oK,hu]
  refine⟨hcf,?_⟩
  rw[hf]
  refine⟨⟨λγ x hx=>?_,λS' h1 h2=>Ctr.arg ha.len (λi h1 h2=>ha.at i h1 h2) (hc S' h1 h2)⟩,λγ=>?_⟩
  · rw[show(wc V rd wk wr).wk=wk from rfl,<-hk γ]
    exact List.mem_map.2 ⟨x,hx,rfl⟩
  · have:=h γ
    rw[show lg j ((wc V rd wk wr).rd,(wc V rd wk wr).wk) log=(j,(rd,wk)) :: log from uW hne]
    exact this
end Go.Gg
namespace Go.Gg
open Go.RowKit (Below)
section
variable {α:Type} {S S0:St} {rf rg kk:Nat} {enc:α->AV} {gs:Nat->Nat} {T:List (List α)} {L:cp}
end
section
variable {α:Type} {P:Program} {rg rf kk:Nat} {enc:α->AV} {gs gs':Nat->Nat} {T T':List (List α)} {t:Env} {S0:St} {L:cp} {K:AV->St->Prop} {x y a:Operand} {m:Int} {d:Option Nat} {Ty e:TypeId}
end
section
variable {P:Program} {n:Nat} {ops rest:List Oper} {K:Env->St->Prop} {d:Option Nat} {ty:TypeId} {pos:String} {after:Array Edge} {t:Env} {S:St} {x:Operand}
end
end Go.Gg
namespace Go.Gg
structure GMap (V:Type) where
  n:Nat
  f:List Int->Option V
theorem oZ {S:St}:eJ [] S=S:=rfl
section
variable {P:Program} {rg:Nat} {t:Env} {K:AV->St->Prop} {V:Type} {enc:V->AV} {m:GMap V} {sh:KShape} {T kt et:TypeId} {ns:List Int}
end
end Go.Gg
namespace Go.Gg
def AL (G:Ghost) (a:(Nat×Nat×Nat)×(Nat×Nat×Nat)):Prop:=∃L,G.loc a.1.1 a.1.2.1 a.1.2.2=some L/\G.loc a.2.1 a.2.2.1 a.2.2.2=some L
theorem AL.mono {G G':Ghost} {a:(Nat×Nat×Nat)×(Nat×Nat×Nat)} (h:AL G a) (hg:G.le G'):AL G' a:=let ⟨L,p,q⟩:=h;⟨L,hg.loc _ _ _ _ p,hg.loc _ _ _ _ q⟩
abbrev ALs:=List ((Nat×Nat×Nat)×(Nat×Nat×Nat))
abbrev Mv:=Nat×Nat×GObj×Nat
def mvX (q:Nat) (γ:Nat->Nat):List Mv->Nat->iC
  | [],_=>[]
  | m :: M,i=>(q,m.2.2.2,m.2.2.1,γ i) :: mvX q γ M (i+1)
def mvA (rg q:Nat) (γ:Nat->Nat):List Mv->Nat->ALs
  | [],_=>[]
  | m :: M,i=>((rg,m.1,m.2.1),(q,m.2.2.2,γ i)) :: mvA rg q γ M (i+1)
def ur (l:cp):List Mv->Prop
  | []=>True
  | m :: M=>lkp l m.1=some (m.2.2.1,m.2.1)/\(M.all λx=>!(Nat.beq x.1 m.1))=true/\ur l M
theorem pe {l:cp}:∀ {M:List Mv} {m:Mv},ur l M->m∈M->lkp l m.1=some (m.2.2.1,m.2.1)
  | _ :: _,_,h,hm=>by
    rcases List.mem_cons.1 hm with rfl | hm
    · exact h.1
    · exact pe h.2.2 hm
theorem nC {q:Nat} {γ γ':Nat->Nat}:∀ {M:List Mv} {i:Nat},(∀j,i<=j->γ j=γ' j)->mvX q γ M i=mvX q γ' M i
  | [],_,_=>rfl
  | m :: M,i,h=>by rw[mvX,mvX,h i (Nat.le_refl _),nC (M:=M) (i:=i+1) (λj hj=>h j om)]
theorem nD {rg q:Nat} {γ γ':Nat->Nat}:∀ {M:List Mv} {i:Nat},(∀j,i<=j->γ j=γ' j)->mvA rg q γ M i=mvA rg q γ' M i
  | [],_,_=>rfl
  | m :: M,i,h=>by rw[mvA,mvA,h i (Nat.le_refl _),nD (M:=M) (i:=i+1) (λj hj=>h j om)]
theorem qP {S:St} {rg q r k g:Nat} {γ:Nat->Nat} {o:GObj}:∀ {M:List Mv} {i:Nat},stX S (mvX q γ M i) r k=some (o,g)->S r k=some (o,g)\/∃m∈M,r=q/\k=m.2.2.2/\o=m.2.2.1/\((rg,m.1,m.2.1),(q,k,g))∈mvA rg q γ M i
  | [],_,h=>.inl h
  | m :: M,i,h=>by
    simp only[mvX,stX,St.set] at h
    split at h
    · rename_i hc
      cases h
      exact .inr ⟨m,by simp,hc.1,hc.2,rfl,by rw[hc.2];simp[mvA]⟩
    · rcases qP (M:=M) h with h | ⟨m',h1,h2,h3,h4,h5⟩
      · exact .inl h
      · exact .inr ⟨m',by simp[h1],h2,h3,h4,by rw[mvA];exact List.mem_cons_of_mem _ h5⟩
theorem Rel.movesOut {G:Ghost} {S:St} {w:World} {rg:Nat} {l:cp} (h:Rel G (stL S rg l) w) (hrg:∀k,S rg k=none) (q:Nat):∀(M:List Mv) (i:Nat),ur l M->
    ∃(γ:Nat->Nat) (G':Ghost),G.le G'/\G'.imm=G.imm/\Rel G' (stX S (mvX q γ M i)) w/\∀a∈mvA rg q γ M i,AL G' a
  | [],i,_=>⟨λ_=>0,G,Ghost.le.refl G,rfl,h.sub (λr k x e=>by
      have hne:r≠rg:=by rintro rfl;rw[show stX S (mvX q (λ_=>0) [] i)=S from rfl,hrg] at e;cases e
      rw[jE hne];exact e),λa ha=>by simp[mvA] at ha⟩
  | m :: M,i,hM=>by
    obtain⟨γ,G1,le1,im1,rel1,al1⟩:=Rel.movesOut h hrg q M (i+1) hM.2.2
    obtain⟨k0,g,o,k⟩:=m
    obtain⟨g',hg'⟩:=rel1.fresh q k
    obtain⟨L,hL,hobj,hown⟩:=h.obj rg k0 o g (by rw[eF];exact hM.1)
    have hL1:=le1.loc _ _ _ _ hL
    let G':Ghost:={ G1 with loc:=λr2 k2 g2=>if r2=q/\k2=k/\g2=g' then some L else G1.loc r2 k2 g2 }
    have hle:G1.le G':=by
      refine⟨⟨rfl,λ_ h=>h,rfl⟩,λ_ _ _ e=>e,λr2 k2 g2 L2 e=>?_⟩
      show(if r2=q/\k2=k/\g2=g' then some L else G1.loc r2 k2 g2)=some L2
      split
      · rename_i hc;obtain⟨rfl,rfl,rfl⟩:=hc;rw[hg'] at e;cases e
      · exact e
    have hloc:G'.loc q k g'=some L:=by
      show(if q=q/\k=k/\g'=g' then some L else _)=_
      rw[if_pos ⟨rfl,rfl,rfl⟩]
    have hγ:∀j,i+1<=j->γ j=(λj=>if j=i then g' else γ j) j:=λj hj=>by simp only;rw[if_neg om]
    have hlow:∀ {r2 k2 o2 g2},S r2 k2=some (o2,g2)->stL S rg l r2 k2=some (o2,g2)/\r2≠rg:=λ{r2 k2 o2 g2} e=>by
      have hne:r2≠rg:=by rintro rfl;rw[hrg] at e;cases e
      exact⟨by rw[jE hne];exact e,hne⟩
    have apart:∀ {r2 k2 o2 g2 L2},stX S (mvX q γ M (i+1)) r2 k2=some (o2,g2)->G1.loc r2 k2 g2=some L2->0<L.cap->0<L2.cap->L.block≠L2.block:=by
      intro r2 k2 o2 g2 L2 e l2 c1 c2
      rcases qP (rg:=rg) e with e | ⟨m',h1,rfl,rfl,rfl,h5⟩
      · obtain⟨e1,hne⟩:=hlow e
        obtain⟨L3,q1,_⟩:=h.obj _ _ _ _ e1
        rw[le1.loc _ _ _ _ q1] at l2
        cases l2
        exact h.inj rg k0 o g r2 k2 o2 g2 _ _ (by rw[eF];exact hM.1) e1 hL q1 c1 c2 (λhc=>hne hc.1.symm)
      · obtain⟨L3,a1,a2⟩:=al1 _ h5
        simp only at a1 a2
        rw[a2] at l2
        cases l2
        have hm':=pe hM.2.2 h1
        obtain⟨L4,q1,_⟩:=h.obj rg m'.1 m'.2.2.1 m'.2.1 (by rw[eF];exact hm')
        rw[le1.loc _ _ _ _ q1] at a1
        cases a1
        have hk:m'.1≠k0:=by
          have:=List.all_eq_true.1 hM.2.1 m' h1
          intro hc
          rw[hc] at this
          simp at this
        exact h.inj rg k0 o g rg m'.1 m'.2.2.1 m'.2.1 _ _ (by rw[eF];exact hM.1) (by rw[eF];exact hm') hL q1 c1 c2 (λhc=>hk hc.2.symm)
    refine⟨λj=>if j=i then g' else γ j,G',le1.trans hle,im1,?_,?_⟩
    · show Rel G' ((stX S (mvX q _ M (i+1))).set q k o (if i=i then g' else γ i)) w
      rw[<-nC hγ,if_pos rfl]
      have src:∀ {r2 k2 o2 g2 L2},((stX S (mvX q γ M (i+1))).set q k o g') r2 k2=some (o2,g2)->G'.loc r2 k2 g2=some L2->(r2=q/\k2=k/\L2=L)\/(¬(r2=q/\k2=k)/\stX S (mvX q γ M (i+1)) r2 k2=some (o2,g2)/\G1.loc r2 k2 g2=some L2):=by
        intro r2 k2 o2 g2 L2 e l2
        simp only[St.set] at e
        split at e
        · rename_i hc;obtain⟨rfl,rfl⟩:=hc;cases e;rw[hloc] at l2;exact .inl ⟨rfl,rfl,(Option.some.inj l2).symm⟩
        · rename_i hc
          obtain⟨L3,q1,_⟩:=rel1.obj _ _ _ _ e
          have:=hle.loc _ _ _ _ q1
          rw[this] at l2
          cases l2
          exact .inr ⟨hc,e,q1⟩
      refine⟨rel1.below,rel1.imm,?_,?_,?_,?_⟩
      · intro r2 k2 o2 g2 e
        simp only[St.set] at e
        split at e
        · rename_i hc;obtain⟨rfl,rfl⟩:=hc;cases e
          refine⟨L,hloc,hobj.keep (le1.trans hle) (λ_=>rfl),λhc=>?_⟩
          have h1:=hown hc
          exact⟨by rw[show G'.init=G1.init from rfl,le1.init.1];exact h1.1,λx=>by rw[show G'.imm=G1.imm from rfl,im1];exact h1.2 x⟩
        · obtain⟨L2,q1,q2,q3⟩:=rel1.obj _ _ _ _ e
          exact⟨L2,hle.loc _ _ _ _ q1,q2.keep hle (λ_=>rfl),q3⟩
      · intro r1 k1 o1 g1 r2 k2 o2 g2 L1 L2 e1 e2 l1 l2 c1 c2 hne
        rcases src e1 l1 with⟨rfl,rfl,rfl⟩ | ⟨hn1,f1,m1⟩
        · rcases src e2 l2 with⟨rfl,rfl,rfl⟩ | ⟨hn2,f2,m2⟩
          · exact absurd ⟨rfl,rfl⟩ hne
          · exact apart f2 m2 c1 c2
        · rcases src e2 l2 with⟨rfl,rfl,rfl⟩ | ⟨hn2,f2,m2⟩
          · exact(apart f1 m1 c2 c1).symm
          · exact rel1.inj _ _ _ _ _ _ _ _ _ _ f1 f2 m1 m2 c1 c2 hne
      · obtain⟨N,hN⟩:=rel1.fin
        refine⟨max N (q+1),λr2 hr k2=>?_⟩
        simp only[St.set]
        rw[if_neg (λhc=>om)]
        exact hN r2 om k2
      · intro r2 k2
        obtain⟨N,hN⟩:=rel1.fing r2 k2
        refine⟨max N (g'+1),λg2 hg2=>?_⟩
        show(if r2=q/\k2=k/\g2=g' then some L else G1.loc r2 k2 g2)=none
        rw[if_neg (λhc=>om)]
        exact hN g2 om
    · intro a ha
      rw[mvA] at ha
      rcases List.mem_cons.1 ha with rfl | ha
      · exact⟨L,hle.loc _ _ _ _ hL1,by simp only[if_pos];exact hloc⟩
      · rw[<-nD hγ] at ha
        exact(al1 a ha).mono hle
def RN (A:ALs) (c c':AV):Prop:=∀(G:Ghost) (x:Value),(∀a∈A,AL G a)->VR G c x->VR G c' x
theorem wC {A:ALs} {c:AV}:RN A c c:=λ_ _ _ h=>h
theorem wB {A:ALs} {kk r k g r' k' g' off n:Nat} (i:Nat) (h:A[i]? = some ((r,k,g),(r',k',g'))):RN A (.sl kk r k g off n) (.sl kk r' k' g' off n):=λG x hA hv=>by
  obtain⟨L,a1,a2⟩:=hA _ (List.mem_of_getElem? h)
  cases hv with
  | sl _ _ _ _ _ _ a L' h1 h2 h3 h4 h5=>simp only at a1;rw[a1] at h1;cases h1;exact .sl _ _ _ _ _ _ _ _ a2 h2 h3 h4 h5
def RNL (A:ALs):List AV->List AV->Prop
  | [],[]=>True
  | c :: l,c' :: l'=>RN A c c'/\RNL A l l'
  | _,_=>False
theorem wD {A:ALs}:RNL A [] []:=trivial
theorem wg {A:ALs} {c c':AV} {l l':List AV} (h:RN A c c') (h':RNL A l l'):RNL A (c :: l) (c' :: l'):=⟨h,h'⟩
theorem RNL.len {A:ALs}:∀ {l l':List AV},RNL A l l'->l.length=l'.length
  | [],[],_=>rfl
  | _ :: _,_ :: _,h=>by simp[RNL.len h.2]
  | [],_ :: _,h=>h.elim
  | _ :: _,[],h=>h.elim
theorem RNL.at {A:ALs}:∀ {l l':List AV} {i:Nat} {c c':AV},RNL A l l'->l[i]? = some c->l'[i]? = some c'->RN A c c'
  | _ :: _,_ :: _,0,_,_,h,h1,h2=>by simp at h1 h2;subst h1;subst h2;exact h.1
  | _ :: _,_ :: _,i+1,_,_,h,h1,h2=>RNL.at h.2 (by simpa using h1) (by simpa using h2)
  | [],_,_,_,_,_,h1,_=>by simp at h1
  | _ :: _,[],_,_,_,h,_,_=>h.elim
theorem vt {A:ALs} {l l':List AV} (h:RNL A l l'):RN A (.tuple l) (.tuple l'):=λG x hA hv=>by
  cases hv with
  | tuple _ xs hs hc=>exact .tuple _ _ (hs.trans h.len) (λi h1 h2=>h.at (List.getElem?_eq_getElem (by rw[h.len];exact h1)) (List.getElem?_eq_getElem h1) G _ hA (hc i _ h2))
def RO (A:ALs) (o o':GObj):Prop:=∀(G:Ghost) (w:World) (L:Loc),(∀a∈A,AL G a)->ff G w L o->ff G w L o'
theorem we {A:ALs} {o:GObj}:RO A o o:=λ_ _ _ _ h=>h
def ROX (A:ALs):iC->iC->Prop
  | [],[]=>True
  | x :: X,y :: Y=>(x.1=y.1/\x.2.1=y.2.1/\x.2.2.2=y.2.2.2)/\RO A x.2.2.1 y.2.2.1/\ROX A X Y
  | _,_=>False
theorem wz {A:ALs}:ROX A [] []:=trivial
theorem wA {A:ALs} {r k g:Nat} {o o':GObj} {X Y:iC} (h:RO A o o') (h':ROX A X Y):ROX A ((r,k,o,g) :: X) ((r,k,o',g) :: Y):=⟨⟨rfl,rfl,rfl⟩,h,h'⟩
theorem qF {A:ALs} {S:St} {r k g:Nat} {o':GObj}:∀ {X Y:iC},ROX A X Y->stX S Y r k=some (o',g)->∃o,stX S X r k=some (o,g)/\RO A o o'
  | [],[],_,h=>⟨o',h,we⟩
  | [],_ :: _,h,_=>h.elim
  | _ :: _,[],h,_=>h.elim
  | (r1,k1,o1,g1) :: X,(r2,k2,o2,g2) :: Y,h,e=>by
    obtain⟨⟨a,b,c⟩,ho,h'⟩:=h
    simp only at a b c ho
    subst a;subst b;subst c
    simp only[stX,St.set] at e ⊢
    split at e
    · rename_i hc;cases e;exact⟨o1,by rw[if_pos hc],ho⟩
    · rename_i hc
      obtain⟨o,h1,h2⟩:=qF h' e
      exact⟨o,by rw[if_neg hc];exact h1,h2⟩
theorem p_ {R:AV->St->Prop} {v:AV} {S:St} {rg:Nat} {l:cp} (q:Nat) (hrg:∀k,S rg k=none) (M:List Mv) (hM:ur l M) (v':(Nat->Nat)->AV) (X:(Nat->Nat)->iC)
    (hX:∀γ,ROX (mvA rg q γ M 0) (mvX q γ M 0) (X γ)) (hv:∀γ,RN (mvA rg q γ M 0) v (v' γ)) (h:∀γ,R (v' γ) (stX S (X γ))):cT R v (stL S rg l):=λG w x hr hx=>by
  obtain⟨γ,G',a1,_,a3,a4⟩:=hr.movesOut hrg q M 0 hM
  refine⟨_,_,G',h γ,a1,a3.remap λr k o' g e=>?_,hv γ G' x a4 (hx.mono a1)⟩
  obtain⟨o,e1,e2⟩:=qF (hX γ) e
  refine⟨o,e1,λL hL=>?_⟩
  obtain⟨L',hL',hobj,_⟩:=a3.obj _ _ _ _ e1
  obtain rfl:L'=L:=by rw[hL] at hL';exact(Option.some.inj hL').symm
  exact e2 G' w L' a4 hobj
end Go.Gg
