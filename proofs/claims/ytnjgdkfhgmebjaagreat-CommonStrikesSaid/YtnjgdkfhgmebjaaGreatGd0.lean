/- An own logic over the kit's weakest preconditions, part T: rows within boxes, closures. Conditions: none. -/
import Derived.Test.YtnjgdkfhgmebjaaGreatGc
namespace Go.Gg
def OWG (G:Ghost):GObj->GObj->Prop
  | .arr kk es,.arr kk' es'=>kk=kk'/\es.length=es'.length/\∀i (h:i<es.length) (h':i<es'.length),es[i].cells.length=es'[i].cells.length/\∀j (h1:j<es[i].cells.length) (h2:j<es'[i].cells.length) z,VR G es[i].cells[j] z->VR G es'[i].cells[j] z
  | _,_=>False
theorem Rel.owG {G:Ghost} {S:St} {w:World} (h:Rel G S w) {r k g:Nat} {o o':GObj} (hS:S r k=some (o,g)) (ho:OWG G o o'):Rel G (S.set r k o' g) w:=by
  refine h.remap λr' k' o2 g2 e=>?_
  simp only[St.set] at e
  split at e
  · rename_i hc
    obtain⟨rfl,rfl⟩:=hc
    cases e
    refine⟨o,hS,λL hL=>?_⟩
    obtain⟨L',hL',hobj,_⟩:=h.obj _ _ _ _ hS
    obtain rfl:L'=L:=by rw[hL] at hL';exact(Option.some.inj hL').symm
    cases o with
    | mp=>exact ho.elim
    | lp=>exact ho.elim
    | arr kk es=>
    cases o' with
    | mp=>exact ho.elim
    | lp=>exact ho.elim
    | arr kk' es'=>
    obtain⟨rfl,hl,hv⟩:=ho
    obtain⟨h1,h2,h3,h3',h4,h5⟩:=hobj
    refine⟨h1,h2,by omega,h3',λi hi=>?_,λhc=>?_⟩
    · rw[<-(hv i om hi).1];exact h4 i om
    · obtain⟨row,a1,a2,a3⟩:=h5 hc
      refine⟨row,a1,a2,λi hi j hj=>?_⟩
      have hvi:=hv i om hi
      obtain⟨z,z1,z2⟩:=a3 i om j (by rw[hvi.1];exact hj)
      exact⟨z,z1,hvi.2 j _ hj z z2⟩
  · exact⟨o2,e,λL hL=>by
      obtain⟨L',hL',hobj,_⟩:=h.obj _ _ _ _ e
      obtain rfl:L'=L:=by rw[hL] at hL';exact(Option.some.inj hL').symm
      exact hobj⟩
theorem Vc.matB {P:Program} {n:Nat} {c:Code} {Q:AK} {t:Env} {S0:St} {rg:Nat} {l:df} {a:AV} {b:Nat->AV} {kk g0:Nat} (k0 i k k1:Nat) (hS:lkp l k0=some (.arr kk [a],g0)) (hc:a.cells[i]? = some .nil) (hk:0<k1) (hne:k≠k0)
    (hb:(λg=>(b g).cells)=λg=>a.cells.set i (.sl k1 rg k g 0 0)) (h:∀g,Vc P n c Q t (stL S0 rg ((k0,.arr kk [b g],g0) :: (k,.arr k1 [],g) :: l))):Vc P n c Q t (stL S0 rg l):=by
  intro ro hok G w0 w hr ht
  obtain⟨g,G',q1,q2,q3⟩:=hr.mat rg k k1 hk
  have hS2:((stL S0 rg l).set rg k (.arr k1 []) g) rg k0=some (.arr kk [a],g0):=by
    simp only[St.set]
    rw[if_neg (λhh=>hne hh.2.symm),hZ]
    exact hS
  have hcb:(b g).cells=a.cells.set i (.sl k1 rg k g 0 0):=congrFun hb g
  have q4:=q2.owG (o':=.arr kk [b g]) hS2 ⟨rfl,rfl,λx h1 h2=>by
    have:x=0:=by simpa using h1
    subst this
    simp only[List.getElem_cons_zero]
    refine⟨by rw[hcb,List.length_set],λj h3 h4 z hz=>?_⟩
    have e:(b g).cells[j]=(a.cells.set i (.sl k1 rg k g 0 0))[j]'(by rw[List.length_set];exact h3):=by simp only[hcb]
    rw[e,List.getElem_set]
    split
    · rename_i hij
      subst hij
      rw[List.getElem?_eq_getElem h3] at hc
      rw[Option.some.inj hc] at hz
      cases hz
      exact q3
    · exact hz⟩
  rw[fQ,fQ] at q4
  exact wpIn_mono (h g ro hok G' w0 w q4 (ht.mono q1)) (λ_ _ _ he=>AK.lift_mono q1 he)
end Go.Gg
namespace Go.Gg
theorem yy:DK []:=trivial
theorem yz {p:Nat×Nat} {X:List (Nat×Nat)} (h:∀q∈X,¬(q.1=p.1/\q.2=p.2)) (h':DK X):DK (p :: X):=⟨h,h'⟩
theorem yg {p:Nat×Nat}:∀q∈([]:List (Nat×Nat)),¬(q.1=p.1/\q.2=p.2):=λ_ h=>by simp at h
theorem sH {S:St}:stX S []=S:=rfl
theorem t3 {S:St} {r k g:Nat} {o:GObj} {X:qf} (h:S r k=some (o,g)) (h':stX S X=S):stX S ((r,k,o,g) :: X)=S:=by
  show(stX S X).set r k o g=S
  rw[h']
  funext a b
  simp only[St.set]
  split
  · rename_i hc;obtain⟨rfl,rfl⟩:=hc;exact h.symm
  · rfl
theorem z8 {S S1 S2:St} {r k g:Nat} {o:GObj} {X:qf} (h:stX S X=S1) (h':S1.set r k o g=S2):stX S ((r,k,o,g) :: X)=S2:=by
  show(stX S X).set r k o g=S2
  rw[h,h']
end Go.Gg
namespace Go.Gg
open Go.RowKit (Below)
def dG {α:Type} (S:St) (rf kk:Nat) (enc:α->AV) (gs:Nat->Nat) (T:List (List α)):St:=λr k=>if r=rf then some (.arr kk ((T.getD k []).map enc),gs k) else S r k
def l9 (gs:Nat->Nat) (i g:Nat):Nat->Nat:=λj=>if j=i then g else gs j
section
variable {α:Type} {S S0:St} {rf rg kk:Nat} {enc:α->AV} {gs:Nat->Nat} {T:List (List α)} {L:df}
theorem uV (hne:rf≠rg) (i:Nat):stL (dG S0 rf kk enc gs T) rg L rf i=some (.arr kk ((T.getD i []).map enc),gs i):=by
  rw[o8 hne]
  simp[dG]
theorem yu {r k:Nat} (h:r≠rf):dG S rf kk enc gs T r k=S r k:=by simp[dG,h]
end
section
variable {α:Type} {P:Program} {rg rf kk:Nat} {enc:α->AV} {gs gs':Nat->Nat} {T T':List (List α)} {t:Env} {S0:St} {L:df} {K:AV->St->Prop} {x y a:Operand} {m:Int} {d:Option Nat} {Ty e:TypeId}
end
theorem kX {α:Type} {R:AV->St->Prop} {v:AV} {S:St} {rf rg kk:Nat} {enc:α->AV} {gs:Nat->Nat} {T:List (List α)} {L:df} (hne:rf≠rg) (hrf:∀k,S rf k=none) (h:dq R v (stL S rg L)):dq R v (stL (dG S rf kk enc gs T) rg L):=by
  refine dq.drop rf ?_
  have:(stL (dG S rf kk enc gs T) rg L).clear rf=stL S rg L:=by
    funext r k
    simp only[St.clear,stL,dG]
    by_cases h1:r=rf
    · subst h1;rw[if_pos rfl,if_neg hne,hrf]
    · rw[if_neg h1,if_neg h1]
  rw[this]
  exact h
section
variable {P:Program} {n:Nat} {ops rest:List Oper} {K:Env->St->Prop} {d:Option Nat} {ty:TypeId} {pos:String} {after:Array Edge} {t:Env} {S:St} {x:Operand}
end
end Go.Gg
namespace Go.Gg
structure GMap (V:Type) where
  n:Nat
  f:List Int->Option V
def xc {V:Type}:GMap V:=⟨0,λ_=>none⟩
def vS {V:Type} (enc:V->AV) (sh:KShape) (m:GMap V):GObj:=.mp sh m.n (λq=>(m.f q).map enc)
theorem zG {S:St}:dU [] S=S:=rfl
theorem zH {S S1 S2:St} {r k g:Nat} {o:GObj} {X:List WE} (h:dU X S=S1) (h':S1.set r k o g=S2):dU ((r,k,o,g) :: X) S=S2:=by
  show(dU X S).set r k o g=S2
  rw[h,h']
section
variable {P:Program} {rg:Nat} {t:Env} {K:AV->St->Prop} {V:Type} {enc:V->AV} {m:GMap V} {sh:KShape} {T kt et:TypeId} {ns:List Int}
theorem vI {S0:St} {L:df} {d:Nat} {hint:Option Operand} (hT:td P T = .map kt et) (hk:di P kt=some sh) (hh:(match hint.map (ev t) with | none=>True | some (.int _ _)=>True | _=>False))
    (h:∀g,K (.map rg d g) (stL S0 rg ((d,vS enc sh xc,g) :: L))):vo P rg (some d) (.makeMap T hint) t (stL S0 rg L) K:=by
  rw[vo_makeMap]
  simp only[iQ,hT,hk]
  refine⟨hh,λg=>?_⟩
  have:=h g
  rw[<-aY (o:=vS enc sh xc)] at this
  exact this
end
end Go.Gg
namespace Go.Gg
end Go.Gg
