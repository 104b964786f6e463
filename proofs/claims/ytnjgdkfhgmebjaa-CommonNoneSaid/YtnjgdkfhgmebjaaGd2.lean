/- An own logic over the kit's weakest preconditions, part Wm: maps of rows that go on growing. Conditions: none. -/
import Derived.Test.YtnjgdkfhgmebjaaGd0
namespace Go.Gg
theorem Rel.famMake0 {α:Type} {G:Ghost} {S0:St} {w:World} {rg:Nat} {L:cS} {kk:Nat} (enc:α->AV) (hr:Rel G (stL S0 rg L) w) (hk:0<kk) :
    ∃rf gs G',rf≠rg/\(∀k,S0 rf k=none)/\G.le G'/\Rel G' (stL (dh S0 rf kk enc gs []) rg L) w:=by
  obtain⟨N,hN⟩:=hr.fin
  let rf:=max N (rg+1)
  have hne:rf≠rg:=by show max N (rg+1)≠rg;omega
  have hrf:∀k,S0 rf k=none:=λk=>by
    have:=hN rf (Nat.le_max_left _ _) k
    rwa[mS hne] at this
  let gs:Nat->Nat:=λk=>(hr.fing rf k).choose
  have hgs:∀k,G.loc rf k (gs k)=none:=λk=>(hr.fing rf k).choose_spec _ (Nat.le_refl _)
  let L0:Loc:=⟨0,0,kk,0⟩
  let G':Ghost:={ G with loc:=λr k g=>if r=rf/\g=gs k then some L0 else G.loc r k g }
  have hle:G.le G':=by
    refine⟨⟨rfl,λ_ h=>h,rfl⟩,λ_ _ _ e=>e,λr k g L' e=>?_⟩
    show(if r=rf/\g=gs k then some L0 else G.loc r k g)=some L'
    split
    · rename_i hc;obtain⟨rfl,rfl⟩:=hc;rw[hgs] at e;cases e
    · exact e
  have hloc:∀k,G'.loc rf k (gs k)=some L0:=λk=>by
    show(if rf=rf/\gs k=gs k then some L0 else _)=_
    rw[if_pos ⟨rfl,rfl⟩]
  have hgetD:∀k,([]:List (List α)).getD k []=[]:=λ_=>rfl
  refine⟨rf,gs,G',hne,hrf,hle,?_⟩
  show Rel G' (stL (dh S0 rf kk enc gs ([]:List (List α))) rg L) w
  · show Rel G' (stL (dh S0 rf kk enc gs ([]:List (List α))) rg L) w
    have src:∀ {r k o g},stL (dh S0 rf kk enc gs ([]:List (List α))) rg L r k=some (o,g)->(r=rf/\o = .arr kk []/\g=gs k)\/(r≠rf/\stL S0 rg L r k=some (o,g)):=λ{r k o g} e=>by
      by_cases h:r=rf
      · subst h
        rw[rr hne,hgetD] at e
        cases e
        exact .inl ⟨rfl,rfl,rfl⟩
      · refine .inr ⟨h,?_⟩
        simp only[stL] at e ⊢
        split
        · rename_i h2;rw[if_pos h2] at e;exact e
        · rename_i h2;rw[if_neg h2,uO h] at e;exact e
    refine⟨hr.below,hr.imm,λr k o g' e=>?_,?_,⟨rf+1,λr hr' k=>?_⟩,λr k=>?_⟩
    · rcases src e with⟨rfl,rfl,rfl⟩ | ⟨h,e⟩
      · exact⟨L0,hloc k,⟨hk,rfl,by simp,by simp[L0,maxLen],λi h=>by simp at h,λh=>by simp[L0] at h⟩,λh=>by simp[L0] at h⟩
      · obtain⟨L1,q1,q2,q3⟩:=hr.obj _ _ _ _ e
        exact⟨L1,hle.loc _ _ _ _ q1,q2.keep hle (λ_=>rfl),q3⟩
    · intro r1 k1 o1 g1 r2 k2 o2 g2 L1 L2 e1 e2 l1 l2 c1 c2 hne'
      rcases src e1 with⟨rfl,rfl,rfl⟩ | ⟨h1,e1⟩
      · rw[hloc] at l1;cases l1;simp[L0] at c1
      · rcases src e2 with⟨rfl,rfl,rfl⟩ | ⟨h2,e2⟩
        · rw[hloc] at l2;cases l2;simp[L0] at c2
        · obtain⟨M1,q1,_⟩:=hr.obj _ _ _ _ e1
          obtain⟨M2,q2,_⟩:=hr.obj _ _ _ _ e2
          have a1:=hle.loc _ _ _ _ q1
          have a2:=hle.loc _ _ _ _ q2
          rw[l1] at a1;cases a1
          rw[l2] at a2;cases a2
          exact hr.inj _ _ _ _ _ _ _ _ _ _ e1 e2 q1 q2 c1 c2 hne'
    · have h3:=hN r (by have:rf+1<=r:=hr';have:rf=max N (rg+1):=rfl;omega) k
      cases e:stL (dh S0 rf kk enc gs ([]:List (List α))) rg L r k with
      | none=>rfl
      | some x=>
        obtain⟨o,g'⟩:=x
        rcases src e with⟨h,_,_⟩ | ⟨_,e⟩
        · omega
        · rw[h3] at e;cases e
    · obtain⟨M,hM⟩:=hr.fing r k
      refine⟨max M (gs k+1),λg' hg'=>?_⟩
      show(if r=rf/\g'=gs k then some L0 else G.loc r k g')=none
      rw[if_neg (λhc=>om)]
      exact hM g' om
section
variable {α:Type}
def jS (T:List (Int×List α)):List Int:=T.map (·.1)
def cT (T:List (Int×List α)):List (List α):=T.map (·.2)
def bo (T:List (Int×List α)) (i:Int):Nat:=(jS T).findIdx (λk=>k == i)
def bS (T:List (Int×List α)) (i:Int):List α:=(cT T).getD (bo T i) []
def dv (T:List (Int×List α)) (i:Int) (l:List α):List (Int×List α):=if bo T i<T.length then T.set (bo T i) (i,l) else T++[(i,l)]
def eS (sh:KShape) (rf kk:Nat) (gs:Nat->Nat) (T:List (Int×List α)):GObj:=.mp sh T.length (λq=>match q with
  | [i]=>if bo T i<T.length then some (.sl kk rf (bo T i) (gs (bo T i)) 0 (bS T i).length) else none
  | _=>none)
variable {T:List (Int×List α)} {i:Int} {l:List α}
theorem gk:(jS T).length=T.length:=List.length_map ..
theorem oh:(cT T).length=T.length:=List.length_map ..
theorem mL:bo T i<=T.length:=by rw[<-gk];exact List.findIdx_le_length
theorem nw (h:bo T i<T.length):(jS T)[bo T i]'(by rw[gk];exact h)=i:=by
  have:=List.findIdx_getElem (p:=λk=>k == i) (xs:=jS T) (w:=by rw[gk];exact h)
  exact eq_of_beq this
theorem lB:jS (dv T i l)=if bo T i<T.length then jS T else jS T++[i]:=by
  unfold dv
  split
  · rename_i h
    show(T.set (bo T i) (i,l)).map (·.1)=T.map (·.1)
    rw[List.map_set]
    have hk:=nw h
    refine List.ext_getElem (by simp) λj h1 h2=>?_
    rw[List.getElem_set]
    split
    · rename_i e
      subst e
      exact hk.symm
    · rfl
  · show(T++[(i,l)]).map (·.1)=_
    rw[List.map_append];rfl
theorem jF:(dv T i l).length=if bo T i<T.length then T.length else T.length+1:=by
  unfold dv
  split
  · rw[List.length_set]
  · rw[List.length_append];rfl
theorem nv:bo (dv T i l) i=bo T i:=by
  unfold bo
  rw[lB]
  split
  · rfl
  · rename_i h
    have he:(jS T).findIdx (λk=>k == i)=(jS T).length:=by
      have:=mL (T:=T) (i:=i)
      rw[gk]
      unfold bo at h this
      omega
    rw[List.findIdx_append,he,if_neg om]
    simp
theorem p5:bo (dv T i l) i<(dv T i l).length:=by
  rw[nv,jF]
  have:=mL (T:=T) (i:=i)
  split<;>omega
theorem o3 {j:Int} (hj:j≠i):(bo (dv T i l) j<(dv T i l).length↔bo T j<T.length)/\(bo T j<T.length->bo (dv T i l) j=bo T j/\bo T j≠bo T i):=by
  have hne:bo T j<T.length->bo T j≠bo T i:=λh he=>by
    have h1:=nw h
    have h2:(jS T)[bo T j]'(by rw[gk];exact h)=i:=by
      have h3:=nw (T:=T) (i:=i) om
      simp only[he]
      exact h3
    exact hj (h1.symm.trans h2)
  by_cases hp:bo T i<T.length
  · have e:bo (dv T i l) j=bo T j:=by unfold bo;rw[lB,if_pos hp]
    have e2:(dv T i l).length=T.length:=by rw[jF,if_pos hp]
    exact⟨by rw[e,e2],λh=>⟨e,hne h⟩⟩
  · have e2:(dv T i l).length=T.length+1:=by rw[jF,if_neg hp]
    have hle:=mL (T:=T) (i:=j)
    have e:bo (dv T i l) j=if bo T j<T.length then bo T j else T.length+1:=by
      unfold bo at hle ⊢
      rw[lB,if_neg hp,List.findIdx_append,gk]
      split
      · rfl
      · have:(List.findIdx (λk=>k == j) [i])=1:=by
          have hb:(i == j)=false:=beq_false_of_ne (Ne.symm hj)
          simp[List.findIdx_cons,hb]
        rw[this];omega
    refine⟨?_,λh=>⟨by rw[e,if_pos h],hne h⟩⟩
    rw[e,e2]
    split<;>omega
theorem jx (k:Nat):(cT (dv T i l)).getD k []=if k=bo T i then l else (cT T).getD k []:=by
  have hle:=mL (T:=T) (i:=i)
  unfold dv
  split
  · rename_i h
    show((T.set (bo T i) (i,l)).map (·.2)).getD k []=_
    rw[List.map_set]
    simp only[List.getD_eq_getElem?_getD,List.getElem?_set]
    by_cases hk:bo T i=k
    · subst hk
      rw[if_pos rfl,if_pos rfl,if_pos (by rw[List.length_map];exact h)];rfl
    · rw[if_neg hk,if_neg (Ne.symm hk)];rfl
  · rename_i h
    have he:bo T i=T.length:=om
    show((T++[(i,l)]).map (·.2)).getD k []=_
    rw[List.map_append,he]
    simp only[List.getD_eq_getElem?_getD,List.getElem?_append,List.length_map]
    by_cases hk:k=T.length
    · subst hk
      rw[if_neg om,if_pos rfl];simp
    · rw[if_neg hk]
      by_cases h2:k<T.length
      · rw[if_pos h2];rfl
      · rw[if_neg h2]
        have:(cT T)[k]? = none:=List.getElem?_eq_none (by rw[oh];omega)
        rw[this,List.getElem?_eq_none (by simp;omega)]
theorem oD:bS (dv T i l) i=l:=by unfold bS;rw[nv,jx,if_pos rfl]
theorem fq (h:¬bo T i<T.length):bS T i=[]:=by
  unfold bS
  rw[List.getD_eq_getElem?_getD,List.getElem?_eq_none (by rw[oh];omega)];rfl
theorem uI {sh:KShape} {rf kk g:Nat} {gs:Nat->Nat} (h:¬bo T i<T.length):eS sh rf kk (jZ gs (bo T i) g) T=eS sh rf kk gs T:=by
  unfold eS
  congr 1
  funext q
  match q with
  | []=>rfl
  | [j]=>
    dsimp only
    split
    · rename_i hj
      unfold jZ
      rw[if_neg om]
    · rfl
  | _ :: _ :: _=>rfl
theorem tI {sh:KShape} {rf kk g:Nat} {gs:Nat->Nat}:(GObj.mp sh (bif ((λq:List Int=>match q with
      | [i]=>if bo T i<T.length then some (AV.sl kk rf (bo T i) (gs (bo T i)) 0 (bS T i).length) else none
      | _=>none) [i]).isSome then T.length else T.length+1) (λq=>if q=[i] then some (.sl kk rf (bo T i) g 0 l.length) else match q with
      | [i]=>if bo T i<T.length then some (AV.sl kk rf (bo T i) (gs (bo T i)) 0 (bS T i).length) else none
      | _=>none))=eS sh rf kk (jZ gs (bo T i) g) (dv T i l):=by
  unfold eS
  congr 1
  · rw[jF]
    dsimp only
    split<;>rfl
  · funext q
    match q with
    | []=>rfl
    | _ :: _ :: _=>simp
    | [j]=>
      dsimp only
      by_cases hj:j=i
      · subst hj
        rw[if_pos rfl,if_pos p5,nv,oD]
        unfold jZ
        rw[if_pos rfl]
      · obtain⟨h1,h2⟩:=o3 (T:=T) (l:=l) hj
        rw[if_neg (by simpa using hj)]
        by_cases hp:bo T j<T.length
        · obtain⟨e,hn⟩:=h2 hp
          rw[if_pos hp,if_pos (h1.2 hp),e]
          unfold jZ
          rw[if_neg hn]
          have:bS (dv T i l) j=bS T j:=by
            unfold bS
            rw[e,jx,if_neg hn]
          rw[this]
        · rw[if_neg hp,if_neg (λhc=>hp (h1.1 hc))]
end
section
variable {α:Type} {S S0:St} {rf rg kk:Nat} {enc:α->AV} {gs:Nat->Nat} {T:List (Int×List α)} {L:cS} {i:Int}
theorem tN (hne:rf≠rg) {g:Nat} {l:List α}:(stL (dh S0 rf kk enc gs (cT T)) rg L).set rf (bo T i) (.arr kk (l.map enc)) g=stL (dh S0 rf kk enc (jZ gs (bo T i) g) (cT (dv T i l))) rg L:=by
  funext r k
  simp only[St.set,stL,dh]
  by_cases h1:r=rf
  · subst h1
    rw[if_neg hne,if_neg hne]
    simp only[if_true,jx,jZ]
    by_cases h2:k=bo T i
    · rw[if_pos ⟨trivial,h2⟩,if_pos h2,if_pos h2]
    · rw[if_neg (λh=>h2 h.2),if_neg h2,if_neg h2]
  · rw[if_neg (λh=>h1 h.1)]
    simp only[if_neg h1]
theorem tO (hne:rf≠rg) {g:Nat} (h:¬bo T i<T.length):(stL (dh S0 rf kk enc gs (cT T)) rg L).set rf (bo T i) (.arr kk []) g=stL (dh S0 rf kk enc (jZ gs (bo T i) g) (cT T)) rg L:=by
  funext r k
  simp only[St.set,stL,dh]
  by_cases h1:r=rf
  · subst h1
    rw[if_neg hne,if_neg hne]
    simp only[if_true,jZ]
    by_cases h2:k=bo T i
    · have h3:=fq h
      unfold bS at h3
      rw[if_pos ⟨trivial,h2⟩,if_pos h2,h2,h3];rfl
    · rw[if_neg (λh=>h2 h.2),if_neg h2]
  · rw[if_neg (λh=>h1 h.1)]
    simp only[if_neg h1]
theorem rt (hne:rf≠rg):stL (dh S0 rf kk enc gs (cT T)) rg L rf (bo T i)=some (.arr kk ((bS T i).map enc),gs (bo T i)):=rr hne _
end
theorem Wl.famM {α β:Type} {P:Program} {n:Nat} {ops c:List Oper} {Kt:Env->St->Prop} {t:Env} {S0:St} {rg K g:Nat} {L:cS} {sh:KShape} {enc0:β->AV} (kk:Nat) (enc:α->AV) (hS:lkp L K=some (rX enc0 sh tG,g)) (hk:0<kk)
    (h:∀rf gs,rf≠rg->(∀k,S0 rf k=none)->Wl P n ops c Kt t (stL (dh S0 rf kk enc gs (cT ([]:List (Int×List α)))) rg ((K,eS sh rf kk gs ([]:List (Int×List α)),g) :: L))):Wl P n ops c Kt t (stL S0 rg L):=by
  intro hok ro G a w Q hr ht hQ
  obtain⟨rf,gs,G',h1,h2,h3,h4⟩:=hr.famMake0 enc hk
  refine h rf gs h1 h2 hok ro G' a w Q ?_ (ht.mono h3) (λa w hl=>hQ a w (Gg.lift_mono hl h3))
  have e:eS sh rf kk gs ([]:List (Int×List α))=rX enc0 sh tG:=by
    unfold eS rX
    congr 1
    funext q
    match q with
    | []=>rfl
    | [_]=>rfl
    | _ :: _ :: _=>rfl
  rw[e,<-eK]
  have e2:(stL (dh S0 rf kk enc gs (cT ([]:List (Int×List α)))) rg L).set rg K (rX enc0 sh tG) g=stL (dh S0 rf kk enc gs []) rg L:=by
    funext r k
    simp only[St.set]
    split
    · rename_i hc;obtain⟨rfl,rfl⟩:=hc;rw[fM,hS]
    · rfl
  rw[e2]
  exact h4
section
variable {α:Type} {P:Program} {n:Nat} {rg rf kk:Nat} {enc:α->AV} {gs:Nat->Nat} {T:List (Int×List α)} {t:Env} {S0:St} {L:cS} {x y a:Operand} {i:Int} {d:Option Nat} {Ty e kt et:TypeId} {sh:KShape}
theorem pQ {S:St} {K:AV->St->Prop} {k g:Nat} (hS:S rg k=some (eS sh rf kk gs T,g)) (hT:td P Ty = .map kt et) (hk:cU P kt=some sh) (hok:cI P et=true) (hx:ev t x = .map rg k g) (hi:eR sh (ev t y)=some [i]) (hp:bo T i<T.length)
    (h:K (.sl kk rf (bo T i) (gs (bo T i)) 0 (bS T i).length) S):vo P rg d (.lookup Ty x y false) t S K:=by
  rw[vo_lookup,hx]
  simp only[dY,hS,eS,hT,hi]
  refine⟨⟨trivial,hk,hok⟩,?_⟩
  rw[if_pos hp]
  exact h
theorem pR {S:St} {K:AV->St->Prop} {k g:Nat} (hS:S rg k=some (eS sh rf kk gs T,g)) (hT:td P Ty = .map kt et) (hk:cU P kt=some sh) (hok:cI P et=true) (hz:zav P et = .nil) (hx:ev t x = .map rg k g) (hi:eR sh (ev t y)=some [i]) (hp:¬bo T i<T.length)
    (h:K .nil S):vo P rg d (.lookup Ty x y false) t S K:=by
  rw[vo_lookup,hx]
  simp only[dY,hS,eS,hT,hi]
  refine⟨⟨trivial,hk,hok⟩,?_⟩
  rw[if_neg hp,hz]
  exact h
theorem Wl.matG {ops rest:List Oper} {Kt:Env->St->Prop} {S:St} (d q k kk:Nat) (h0:t d = .nil) (hk:0<kk) (h:∀g,Wl P n ops rest Kt (upd t d (.sl kk q k g 0 0)) (S.set q k (.arr kk []) g)):Wl P n ops rest Kt t S:=by
  intro hok ro G a w Q hr ht hQ
  obtain⟨g,G',q1,q2,q3⟩:=hr.mat q k kk hk
  refine h g hok ro G' a w Q q2 ⟨ht.1.mono q1,ht.2.1,λi=>?_⟩ (λa w hl=>hQ a w (Gg.lift_mono hl q1))
  unfold upd
  split
  · rename_i e
    subst e
    have:=ht.2.2 i
    rw[h0] at this
    generalize a.tmps.getD i undef=x at this ⊢
    cases this
    exact q3
  · exact(ht.2.2 i).mono q1
theorem Wl.lookF {ops rest:List Oper} {Kt:Env->St->Prop} {ty:TypeId} {pos:String} {after:Array Edge} {K g d:Nat} (hS:lkp L K=some (eS sh rf kk gs T,g)) (hT:td P Ty = .map kt et) (hk:cU P kt=some sh) (hok:cI P et=true) (hz:zav P et = .nil) (hx:ev t x = .map rg K g) (hi:eR sh (ev t y)=some [i])
    (hne:rf≠rg) (hkk:0<kk) (h:∀gs',Wl P n ops rest Kt (upd t d (.sl kk rf (bo T i) (gs' (bo T i)) 0 (bS T i).length)) (stL (dh S0 rf kk enc gs' (cT T)) rg ((K,eS sh rf kk gs' T,g) :: L))) :
    Wl P n ops (⟨some d,.lookup Ty x y false,ty,pos,after,none⟩ :: rest) Kt t (stL (dh S0 rf kk enc gs (cT T)) rg L):=by
  have self:stL (dh S0 rf kk enc gs (cT T)) rg ((K,eS sh rf kk gs T,g) :: L)=stL (dh S0 rf kk enc gs (cT T)) rg L:=by
    rw[<-eK]
    funext r k
    simp only[St.set]
    split
    · rename_i hc;obtain⟨rfl,rfl⟩:=hc;rw[fM,hS]
    · rfl
  by_cases hp:bo T i<T.length
  · refine wZ rg (pQ (by rw[fM];exact hS) hT hk hok hx hi hp ?_)
    have:=h gs
    rw[self] at this
    exact this
  · refine wZ rg (pR (by rw[fM];exact hS) hT hk hok hz hx hi hp ?_)
    refine Wl.matG d rf (bo T i) kk (by show upd t d .nil d = .nil;simp[upd]) hkk (λg'=>?_)
    have:=h (jZ gs (bo T i) g')
    rw[uI hp,<-tO hne hp,fq hp] at this
    have e:(stL (dh S0 rf kk enc gs (cT T)) rg ((K,eS sh rf kk gs T,g) :: L)).set rf (bo T i) (.arr kk []) g'=(stL (dh S0 rf kk enc gs (cT T)) rg L).set rf (bo T i) (.arr kk []) g':=by rw[self]
    rw[e] at this
    have e2:upd (bX t (some d) .nil) d (.sl kk rf (bo T i) g' 0 0)=upd t d (.sl kk rf (bo T i) g' 0 0):=by
      funext k
      simp only[bX,upd]
      split<;>rfl
    rw[e2]
    have e3:jZ gs (bo T i) g' (bo T i)=g':=by simp[jZ]
    rw[e3] at this
    exact this
theorem uD {K:AV->St->Prop} {b g m:Nat} {xs:List α} {z:AV} (hne:rf≠rg) (hT:td P Ty = .slice e) (hb:bts P e=b) (hok:cI P e=true) (hz:zav P e=z) (hg:gs (bo T i)=g) (hn:m=(bS T i).length) (hx:iB (stL (dh S0 rf kk enc gs (cT T)) rg L) (ev t y)=some (xs.map enc)) (hk:z.cells.length=kk) (hx0:ev t x = .sl kk rf (bo T i) g 0 m)
    (hone:∀z,dt (enc z).cells=true) (hkk:∀z,(enc z).cells.length=kk) (hbd:(bS T i++xs).length*b<=140737488355328) (hb0:Nat.ble 1 b=true)
    (h:∀g,K (.sl kk rf (bo T i) g 0 (bS T i++xs).length) (stL (dh S0 rf kk enc (jZ gs (bo T i) g) (cT (dv T i (bS T i++xs)))) rg L)) :
    vo P rg d (.call { callee:=.builtin .append,args:=#[x,y],argTypes:=#[Ty,Ty] }) t (stL (dh S0 rf kk enc gs (cT T)) rg L) K:=by
  subst hg
  exact cL (es:=bS T i) hT hb hok hz (rt hne) hn hx hk hx0 hone hkk hbd hb0 (λg=>tN hne) h
theorem uB {K:AV->St->Prop} {S S':St} {k g g1 m:Nat} {l:List α} (hS:S rg k=some (eS sh rf kk gs T,g)) (hT:td P Ty = .map kt et) (hk:cU P kt=some sh) (hy:ev t y = .map rg k g) (hi:eR sh (ev t a)=some [i]) (hx:ev t x = .sl kk rf (bo T i) g1 0 m) (hm:m=l.length)
    (hp:S.set rg k (eS sh rf kk (jZ gs (bo T i) g1) (dv T i l)) g=S') (h:K .junk S'):vo P rg d (.mapUpdate Ty y a x) t S K:=by
  subst hm
  rw[vo_mapUpd,hy]
  unfold eS at hS
  simp only[cV,hS,hT,hi]
  refine⟨⟨trivial,hk⟩,?_⟩
  rw[hx]
  have e:=tI (T:=T) (i:=i) (l:=l) (sh:=sh) (rf:=rf) (kk:=kk) (g:=g1) (gs:=gs)
  dsimp only at e ⊢
  rw[e,hp]
  exact h
end
def oSl (e:Option Int) (v:AV):AV:=bif e.isSome then .nil else v
theorem wK {e:Option Int} {v:AV} (h:e.isSome=false):VW (oSl e v) v:=by rw[oSl,h];exact VW.refl _
theorem wl {t:Env} {S:St} {es:List (Nat×AV)} (hf:Fit t es):EWk t S (aR es) S:=λ_ G _ _ hr ht=>⟨G,Ghost.le.refl G,hr,ht.1,ht.2.1,λi=>hf.vw i G _ (ht.2.2 i)⟩
end Go.Gg
