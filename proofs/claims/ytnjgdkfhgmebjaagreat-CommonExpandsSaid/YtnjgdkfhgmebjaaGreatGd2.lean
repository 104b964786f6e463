/- An own logic over the kit's weakest preconditions, part Wm: maps of rows that go on growing. Conditions: none. -/
import Derived.Test.YtnjgdkfhgmebjaaGreatGd0
namespace Go.Gg
theorem Rel.famMake0 {α:Type} {G:Ghost} {S0:St} {w:World} {rg:Nat} {L:dp} {kk:Nat} (enc:α->AV) (hr:Rel G (stL S0 rg L) w) (hk:0<kk) :
    ∃rf gs G',rf≠rg/\(∀k,S0 rf k=none)/\G.le G'/\Rel G' (stL (dV S0 rf kk enc gs []) rg L) w:=by
  obtain⟨N,hN⟩:=hr.fin
  let rf:=max N (rg+1)
  have hne:rf≠rg:=by show max N (rg+1)≠rg;omega
  have hrf:∀k,S0 rf k=none:=λk=>by
    have:=hN rf (Nat.le_max_left _ _) k
    rwa[oM hne] at this
  let gs:Nat->Nat:=λk=>(hr.fing rf k).choose
  have hgs:∀k,G.loc rf k (gs k)=none:=λk=>(hr.fing rf k).choose_spec _ (Nat.le_refl _)
  let L0:Loc:=⟨0,0,kk,0⟩
  let G':Ghost:={ G with loc:=λr k g=>if r=rf/\g=gs k then some L0 else G.loc r k g }
  have hle:G.le G':=by
    refine⟨⟨rfl,λ_ h=>h,rfl⟩,λ_ _ _ e=>e,λr k g L' e=>?_⟩
    show(if r=rf/\g=gs k then some L0 else G.loc r k g)=some L'
    split
    · rename_i hc;obtain⟨rfl,rfl⟩:=hc;rw[hgs] at e;cases e
    · exact e
  have hloc:∀k,G'.loc rf k (gs k)=some L0:=λk=>by
    show(if rf=rf/\gs k=gs k then some L0 else _)=_
    rw[if_pos ⟨rfl,rfl⟩]
  have hgetD:∀k,([]:List (List α)).getD k []=[]:=λ_=>rfl
  refine⟨rf,gs,G',hne,hrf,hle,?_⟩
  show Rel G' (stL (dV S0 rf kk enc gs ([]:List (List α))) rg L) w
  · show Rel G' (stL (dV S0 rf kk enc gs ([]:List (List α))) rg L) w
    have src:∀ {r k o g},stL (dV S0 rf kk enc gs ([]:List (List α))) rg L r k=some (o,g)->(r=rf/\o = .arr kk []/\g=gs k)\/(r≠rf/\stL S0 rg L r k=some (o,g)):=λ{r k o g} e=>by
      by_cases h:r=rf
      · subst h
        rw[ue hne,hgetD] at e
        cases e
        exact .inl ⟨rfl,rfl,rfl⟩
      · refine .inr ⟨h,?_⟩
        simp only[stL] at e ⊢
        split
        · rename_i h2;rw[if_pos h2] at e;exact e
        · rename_i h2;rw[if_neg h2,xt h] at e;exact e
    refine⟨hr.below,hr.imm,λr k o g' e=>?_,?_,⟨rf+1,λr hr' k=>?_⟩,λr k=>?_⟩
    · rcases src e with⟨rfl,rfl,rfl⟩ | ⟨h,e⟩
      · exact⟨L0,hloc k,⟨hk,rfl,by simp,by simp[L0,maxLen],λi h=>by simp at h,λh=>by simp[L0] at h⟩,λh=>by simp[L0] at h⟩
      · obtain⟨L1,q1,q2,q3⟩:=hr.obj _ _ _ _ e
        exact⟨L1,hle.loc _ _ _ _ q1,q2.keep hle (λ_=>rfl),q3⟩
    · intro r1 k1 o1 g1 r2 k2 o2 g2 L1 L2 e1 e2 l1 l2 c1 c2 hne'
      rcases src e1 with⟨rfl,rfl,rfl⟩ | ⟨h1,e1⟩
      · rw[hloc] at l1;cases l1;simp[L0] at c1
      · rcases src e2 with⟨rfl,rfl,rfl⟩ | ⟨h2,e2⟩
        · rw[hloc] at l2;cases l2;simp[L0] at c2
        · obtain⟨M1,q1,_⟩:=hr.obj _ _ _ _ e1
          obtain⟨M2,q2,_⟩:=hr.obj _ _ _ _ e2
          have a1:=hle.loc _ _ _ _ q1
          have a2:=hle.loc _ _ _ _ q2
          rw[l1] at a1;cases a1
          rw[l2] at a2;cases a2
          exact hr.inj _ _ _ _ _ _ _ _ _ _ e1 e2 q1 q2 c1 c2 hne'
    · have h3:=hN r (by have:rf+1<=r:=hr';have:rf=max N (rg+1):=rfl;omega) k
      cases e:stL (dV S0 rf kk enc gs ([]:List (List α))) rg L r k with
      | none=>rfl
      | some x=>
        obtain⟨o,g'⟩:=x
        rcases src e with⟨h,_,_⟩ | ⟨_,e⟩
        · omega
        · rw[h3] at e;cases e
    · obtain⟨M,hM⟩:=hr.fing r k
      refine⟨max M (gs k+1),λg' hg'=>?_⟩
      show(if r=rf/\g'=gs k then some L0 else G.loc r k g')=none
      rw[if_neg (λhc=>om)]
      exact hM g' om
section
variable {α:Type}
def lK (T:List (Int×List α)):List Int:=T.map (·.1)
def dq (T:List (Int×List α)):List (List α):=T.map (·.2)
def bC (T:List (Int×List α)) (i:Int):Nat:=(lK T).findIdx (λk=>k == i)
def co (T:List (Int×List α)) (i:Int):List α:=(dq T).getD (bC T i) []
def eh (T:List (Int×List α)) (i:Int) (l:List α):List (Int×List α):=if bC T i<T.length then T.set (bC T i) (i,l) else T++[(i,l)]
def fW (sh:KShape) (rf kk:Nat) (gs:Nat->Nat) (T:List (Int×List α)):GObj:=.mp sh T.length (λq=>match q with
  | [i]=>if bC T i<T.length then some (.sl kk rf (bC T i) (gs (bC T i)) 0 (co T i).length) else none
  | _=>none)
variable {T:List (Int×List α)} {i:Int} {l:List α}
theorem iA:(lK T).length=T.length:=List.length_map ..
theorem qs:(dq T).length=T.length:=List.length_map ..
theorem oE:bC T i<=T.length:=by rw[<-iA];exact List.findIdx_le_length
theorem pA (h:bC T i<T.length):(lK T)[bC T i]'(by rw[iA];exact h)=i:=by
  have:=List.findIdx_getElem (p:=λk=>k == i) (xs:=lK T) (w:=by rw[iA];exact h)
  exact eq_of_beq this
theorem nw:lK (eh T i l)=if bC T i<T.length then lK T else lK T++[i]:=by
  unfold eh
  split
  · rename_i h
    show(T.set (bC T i) (i,l)).map (·.1)=T.map (·.1)
    rw[List.map_set]
    have hk:=pA h
    refine List.ext_getElem (by simp) λj h1 h2=>?_
    rw[List.getElem_set]
    split
    · rename_i e
      subst e
      exact hk.symm
    · rfl
  · show(T++[(i,l)]).map (·.1)=_
    rw[List.map_append];rfl
theorem lq:(eh T i l).length=if bC T i<T.length then T.length else T.length+1:=by
  unfold eh
  split
  · rw[List.length_set]
  · rw[List.length_append];rfl
theorem pz:bC (eh T i l) i=bC T i:=by
  unfold bC
  rw[nw]
  split
  · rfl
  · rename_i h
    have he:(lK T).findIdx (λk=>k == i)=(lK T).length:=by
      have:=oE (T:=T) (i:=i)
      rw[iA]
      unfold bC at h this
      omega
    rw[List.findIdx_append,he,if_neg om]
    simp
theorem sN:bC (eh T i l) i<(eh T i l).length:=by
  rw[pz,lq]
  have:=oE (T:=T) (i:=i)
  split<;>omega
theorem rl {j:Int} (hj:j≠i):(bC (eh T i l) j<(eh T i l).length↔bC T j<T.length)/\(bC T j<T.length->bC (eh T i l) j=bC T j/\bC T j≠bC T i):=by
  have hne:bC T j<T.length->bC T j≠bC T i:=λh he=>by
    have h1:=pA h
    have h2:(lK T)[bC T j]'(by rw[iA];exact h)=i:=by
      have h3:=pA (T:=T) (i:=i) om
      simp only[he]
      exact h3
    exact hj (h1.symm.trans h2)
  by_cases hp:bC T i<T.length
  · have e:bC (eh T i l) j=bC T j:=by unfold bC;rw[nw,if_pos hp]
    have e2:(eh T i l).length=T.length:=by rw[lq,if_pos hp]
    exact⟨by rw[e,e2],λh=>⟨e,hne h⟩⟩
  · have e2:(eh T i l).length=T.length+1:=by rw[lq,if_neg hp]
    have hle:=oE (T:=T) (i:=j)
    have e:bC (eh T i l) j=if bC T j<T.length then bC T j else T.length+1:=by
      unfold bC at hle ⊢
      rw[nw,if_neg hp,List.findIdx_append,iA]
      split
      · rfl
      · have:(List.findIdx (λk=>k == j) [i])=1:=by
          have hb:(i == j)=false:=beq_false_of_ne (Ne.symm hj)
          simp[List.findIdx_cons,hb]
        rw[this];omega
    refine⟨?_,λh=>⟨by rw[e,if_pos h],hne h⟩⟩
    rw[e,e2]
    split<;>omega
theorem kX (k:Nat):(dq (eh T i l)).getD k []=if k=bC T i then l else (dq T).getD k []:=by
  have hle:=oE (T:=T) (i:=i)
  unfold eh
  split
  · rename_i h
    show((T.set (bC T i) (i,l)).map (·.2)).getD k []=_
    rw[List.map_set]
    simp only[List.getD_eq_getElem?_getD,List.getElem?_set]
    by_cases hk:bC T i=k
    · subst hk
      rw[if_pos rfl,if_pos rfl,if_pos (by rw[List.length_map];exact h)];rfl
    · rw[if_neg hk,if_neg (Ne.symm hk)];rfl
  · rename_i h
    have he:bC T i=T.length:=om
    show((T++[(i,l)]).map (·.2)).getD k []=_
    rw[List.map_append,he]
    simp only[List.getD_eq_getElem?_getD,List.getElem?_append,List.length_map]
    by_cases hk:k=T.length
    · subst hk
      rw[if_neg om,if_pos rfl];simp
    · rw[if_neg hk]
      by_cases h2:k<T.length
      · rw[if_pos h2];rfl
      · rw[if_neg h2]
        have:(dq T)[k]? = none:=List.getElem?_eq_none (by rw[qs];omega)
        rw[this,List.getElem?_eq_none (by simp;omega)]
theorem qM:co (eh T i l) i=l:=by unfold co;rw[pz,kX,if_pos rfl]
theorem gz (h:¬bC T i<T.length):co T i=[]:=by
  unfold co
  rw[List.getD_eq_getElem?_getD,List.getElem?_eq_none (by rw[qs];omega)];rfl
theorem xm {sh:KShape} {rf kk g:Nat} {gs:Nat->Nat} (h:¬bC T i<T.length):fW sh rf kk (lT gs (bC T i) g) T=fW sh rf kk gs T:=by
  unfold fW
  congr 1
  funext q
  match q with
  | []=>rfl
  | [j]=>
    dsimp only
    split
    · rename_i hj
      unfold lT
      rw[if_neg om]
    · rfl
  | _ :: _ :: _=>rfl
theorem wm {sh:KShape} {rf kk g:Nat} {gs:Nat->Nat}:(GObj.mp sh (bif ((λq:List Int=>match q with
      | [i]=>if bC T i<T.length then some (AV.sl kk rf (bC T i) (gs (bC T i)) 0 (co T i).length) else none
      | _=>none) [i]).isSome then T.length else T.length+1) (λq=>if q=[i] then some (.sl kk rf (bC T i) g 0 l.length) else match q with
      | [i]=>if bC T i<T.length then some (AV.sl kk rf (bC T i) (gs (bC T i)) 0 (co T i).length) else none
      | _=>none))=fW sh rf kk (lT gs (bC T i) g) (eh T i l):=by
  unfold fW
  congr 1
  · rw[lq]
    dsimp only
    split<;>rfl
  · funext q
    match q with
    | []=>rfl
    | _ :: _ :: _=>simp
    | [j]=>
      dsimp only
      by_cases hj:j=i
      · subst hj
        rw[if_pos rfl,if_pos sN,pz,qM]
        unfold lT
        rw[if_pos rfl]
      · obtain⟨h1,h2⟩:=rl (T:=T) (l:=l) hj
        rw[if_neg (by simpa using hj)]
        by_cases hp:bC T j<T.length
        · obtain⟨e,hn⟩:=h2 hp
          rw[if_pos hp,if_pos (h1.2 hp),e]
          unfold lT
          rw[if_neg hn]
          have:co (eh T i l) j=co T j:=by
            unfold co
            rw[e,kX,if_neg hn]
          rw[this]
        · rw[if_neg hp,if_neg (λhc=>hp (h1.1 hc))]
end
section
variable {α:Type} {S S0:St} {rf rg kk:Nat} {enc:α->AV} {gs:Nat->Nat} {T:List (Int×List α)} {L:dp} {i:Int}
theorem wu (hne:rf≠rg) {g:Nat} {l:List α}:(stL (dV S0 rf kk enc gs (dq T)) rg L).set rf (bC T i) (.arr kk (l.map enc)) g=stL (dV S0 rf kk enc (lT gs (bC T i) g) (dq (eh T i l))) rg L:=by
  funext r k
  simp only[St.set,stL,dV]
  by_cases h1:r=rf
  · subst h1
    rw[if_neg hne,if_neg hne]
    simp only[if_true,kX,lT]
    by_cases h2:k=bC T i
    · rw[if_pos ⟨trivial,h2⟩,if_pos h2,if_pos h2]
    · rw[if_neg (λh=>h2 h.2),if_neg h2,if_neg h2]
  · rw[if_neg (λh=>h1 h.1)]
    simp only[if_neg h1]
theorem wv (hne:rf≠rg) {g:Nat} (h:¬bC T i<T.length):(stL (dV S0 rf kk enc gs (dq T)) rg L).set rf (bC T i) (.arr kk []) g=stL (dV S0 rf kk enc (lT gs (bC T i) g) (dq T)) rg L:=by
  funext r k
  simp only[St.set,stL,dV]
  by_cases h1:r=rf
  · subst h1
    rw[if_neg hne,if_neg hne]
    simp only[if_true,lT]
    by_cases h2:k=bC T i
    · have h3:=gz h
      unfold co at h3
      rw[if_pos ⟨trivial,h2⟩,if_pos h2,h2,h3];rfl
    · rw[if_neg (λh=>h2 h.2),if_neg h2]
  · rw[if_neg (λh=>h1 h.1)]
    simp only[if_neg h1]
theorem uf (hne:rf≠rg):stL (dV S0 rf kk enc gs (dq T)) rg L rf (bC T i)=some (.arr kk ((co T i).map enc),gs (bC T i)):=ue hne _
end
theorem Wl.famM {α β:Type} {P:Program} {n:Nat} {ops c:List Oper} {Kt:Env->St->Prop} {t:Env} {S0:St} {rg K g:Nat} {L:dp} {sh:KShape} {enc0:β->AV} (kk:Nat) (enc:α->AV) (hS:lkp L K=some (uO enc0 sh wi,g)) (hk:0<kk)
    (h:∀rf gs,rf≠rg->(∀k,S0 rf k=none)->Wl P n ops c Kt t (stL (dV S0 rf kk enc gs (dq ([]:List (Int×List α)))) rg ((K,fW sh rf kk gs ([]:List (Int×List α)),g) :: L))):Wl P n ops c Kt t (stL S0 rg L):=by
  intro hok ro G a w Q hr ht hQ
  obtain⟨rf,gs,G',h1,h2,h3,h4⟩:=hr.famMake0 enc hk
  refine h rf gs h1 h2 hok ro G' a w Q ?_ (ht.mono h3) (λa w hl=>hQ a w (Gg.lift_mono hl h3))
  have e:fW sh rf kk gs ([]:List (Int×List α))=uO enc0 sh wi:=by
    unfold fW uO
    congr 1
    funext q
    match q with
    | []=>rfl
    | [_]=>rfl
    | _ :: _ :: _=>rfl
  rw[e,<-fO]
  have e2:(stL (dV S0 rf kk enc gs (dq ([]:List (Int×List α)))) rg L).set rg K (uO enc0 sh wi) g=stL (dV S0 rf kk enc gs []) rg L:=by
    funext r k
    simp only[St.set]
    split
    · rename_i hc;obtain⟨rfl,rfl⟩:=hc;rw[gV,hS]
    · rfl
  rw[e2]
  exact h4
section
variable {α:Type} {P:Program} {n:Nat} {rg rf kk:Nat} {enc:α->AV} {gs:Nat->Nat} {T:List (Int×List α)} {t:Env} {S0:St} {L:dp} {x y a:Operand} {i:Int} {d:Option Nat} {Ty e kt et:TypeId} {sh:KShape}
theorem sx {S:St} {K:AV->St->Prop} {k g:Nat} (hS:S rg k=some (fW sh rf kk gs T,g)) (hT:td P Ty = .map kt et) (hk:du P kt=some sh) (hok:cY P et=true) (hx:ev t x = .map rg k g) (hi:fV sh (ev t y)=some [i]) (hp:bC T i<T.length)
    (h:K (.sl kk rf (bC T i) (gs (bC T i)) 0 (co T i).length) S):vo P rg d (.lookup Ty x y false) t S K:=by
  rw[vo_lookup,hx]
  simp only[eR,hS,fW,hT,hi]
  refine⟨⟨trivial,hk,hok⟩,?_⟩
  rw[if_pos hp]
  exact h
theorem sy {S:St} {K:AV->St->Prop} {k g:Nat} (hS:S rg k=some (fW sh rf kk gs T,g)) (hT:td P Ty = .map kt et) (hk:du P kt=some sh) (hok:cY P et=true) (hz:zav P et = .nil) (hx:ev t x = .map rg k g) (hi:fV sh (ev t y)=some [i]) (hp:¬bC T i<T.length)
    (h:K .nil S):vo P rg d (.lookup Ty x y false) t S K:=by
  rw[vo_lookup,hx]
  simp only[eR,hS,fW,hT,hi]
  refine⟨⟨trivial,hk,hok⟩,?_⟩
  rw[if_neg hp,hz]
  exact h
theorem Wl.matG {ops rest:List Oper} {Kt:Env->St->Prop} {S:St} (d q k kk:Nat) (h0:t d = .nil) (hk:0<kk) (h:∀g,Wl P n ops rest Kt (upd t d (.sl kk q k g 0 0)) (S.set q k (.arr kk []) g)):Wl P n ops rest Kt t S:=by
  intro hok ro G a w Q hr ht hQ
  obtain⟨g,G',q1,q2,q3⟩:=hr.mat q k kk hk
  refine h g hok ro G' a w Q q2 ⟨ht.1.mono q1,ht.2.1,λi=>?_⟩ (λa w hl=>hQ a w (Gg.lift_mono hl q1))
  unfold upd
  split
  · rename_i e
    subst e
    have:=ht.2.2 i
    rw[h0] at this
    generalize a.tmps.getD i undef=x at this ⊢
    cases this
    exact q3
  · exact(ht.2.2 i).mono q1
theorem Wl.lookF {ops rest:List Oper} {Kt:Env->St->Prop} {ty:TypeId} {pos:String} {after:Array Edge} {K g d:Nat} (hS:lkp L K=some (fW sh rf kk gs T,g)) (hT:td P Ty = .map kt et) (hk:du P kt=some sh) (hok:cY P et=true) (hz:zav P et = .nil) (hx:ev t x = .map rg K g) (hi:fV sh (ev t y)=some [i])
    (hne:rf≠rg) (hkk:0<kk) (h:∀gs',Wl P n ops rest Kt (upd t d (.sl kk rf (bC T i) (gs' (bC T i)) 0 (co T i).length)) (stL (dV S0 rf kk enc gs' (dq T)) rg ((K,fW sh rf kk gs' T,g) :: L))) :
    Wl P n ops (⟨some d,.lookup Ty x y false,ty,pos,after,none⟩ :: rest) Kt t (stL (dV S0 rf kk enc gs (dq T)) rg L):=by
  have self:stL (dV S0 rf kk enc gs (dq T)) rg ((K,fW sh rf kk gs T,g) :: L)=stL (dV S0 rf kk enc gs (dq T)) rg L:=by
    rw[<-fO]
    funext r k
    simp only[St.set]
    split
    · rename_i hc;obtain⟨rfl,rfl⟩:=hc;rw[gV,hS]
    · rfl
  by_cases hp:bC T i<T.length
  · refine wZ rg (sx (by rw[gV];exact hS) hT hk hok hx hi hp ?_)
    have:=h gs
    rw[self] at this
    exact this
  · refine wZ rg (sy (by rw[gV];exact hS) hT hk hok hz hx hi hp ?_)
    refine Wl.matG d rf (bC T i) kk (by show upd t d .nil d = .nil;simp[upd]) hkk (λg'=>?_)
    have:=h (lT gs (bC T i) g')
    rw[xm hp,<-wv hne hp,gz hp] at this
    have e:(stL (dV S0 rf kk enc gs (dq T)) rg ((K,fW sh rf kk gs T,g) :: L)).set rf (bC T i) (.arr kk []) g'=(stL (dV S0 rf kk enc gs (dq T)) rg L).set rf (bC T i) (.arr kk []) g':=by rw[self]
    rw[e] at this
    have e2:upd (cu t (some d) .nil) d (.sl kk rf (bC T i) g' 0 0)=upd t d (.sl kk rf (bC T i) g' 0 0):=by
      funext k
      simp only[cu,upd]
      split<;>rfl
    rw[e2]
    have e3:lT gs (bC T i) g' (bC T i)=g':=by simp[lT]
    rw[e3] at this
    exact this
theorem xg {K:AV->St->Prop} {b g m:Nat} {xs:List α} {z:AV} (hne:rf≠rg) (hT:td P Ty = .slice e) (hb:bts P e=b) (hok:cY P e=true) (hz:zav P e=z) (hg:gs (bC T i)=g) (hn:m=(co T i).length) (hx:jM (stL (dV S0 rf kk enc gs (dq T)) rg L) (ev t y)=some (xs.map enc)) (hk:z.cells.length=kk) (hx0:ev t x = .sl kk rf (bC T i) g 0 m)
    (hone:∀z,eb (enc z).cells=true) (hkk:∀z,(enc z).cells.length=kk) (hbd:(co T i++xs).length*b<=140737488355328) (hb0:Nat.ble 1 b=true)
    (h:∀g,K (.sl kk rf (bC T i) g 0 (co T i++xs).length) (stL (dV S0 rf kk enc (lT gs (bC T i) g) (dq (eh T i (co T i++xs)))) rg L)) :
    vo P rg d (.call { callee:=.builtin .append,args:=#[x,y],argTypes:=#[Ty,Ty] }) t (stL (dV S0 rf kk enc gs (dq T)) rg L) K:=by
  subst hg
  exact bH (es:=co T i) hT hb hok hz (uf hne) hn hx hk hx0 hone hkk hbd hb0 (λg=>wu hne) h
theorem xe {K:AV->St->Prop} {S S':St} {k g g1 m:Nat} {l:List α} (hS:S rg k=some (fW sh rf kk gs T,g)) (hT:td P Ty = .map kt et) (hk:du P kt=some sh) (hy:ev t y = .map rg k g) (hi:fV sh (ev t a)=some [i]) (hx:ev t x = .sl kk rf (bC T i) g1 0 m) (hm:m=l.length)
    (hp:S.set rg k (fW sh rf kk (lT gs (bC T i) g1) (eh T i l)) g=S') (h:K .junk S'):vo P rg d (.mapUpdate Ty y a x) t S K:=by
  subst hm
  rw[vo_mapUpd,hy]
  unfold fW at hS
  simp only[dw,hS,hT,hi]
  refine⟨⟨trivial,hk⟩,?_⟩
  rw[hx]
  have e:=wm (T:=T) (i:=i) (l:=l) (sh:=sh) (rf:=rf) (kk:=kk) (g:=g1) (gs:=gs)
  dsimp only at e ⊢
  rw[e,hp]
  exact h
end
def oSl (e:Option Int) (v:AV):AV:=bif e.isSome then .nil else v
theorem yY {e:Option Int} {v:AV} (h:e.isSome=false):VW (oSl e v) v:=by rw[oSl,h];exact VW.refl _
theorem yx {t:Env} {S:St} {es:List (Nat×AV)} (hf:Fit t es):EWk t S (aQ es) S:=λ_ G _ _ hr ht=>⟨G,Ghost.le.refl G,hr,ht.1,ht.2.1,λi=>hf.vw i G _ (ht.2.2 i)⟩
end Go.Gg
