/- An own logic over the kit's weakest preconditions, part Wm: maps of rows that go on growing. Conditions: none. -/
import Derived.Test.YtnjgdkfhgmebjaaGreatGd0
namespace Go.Gg
theorem Rel.famMake0 {α:Type} {G:Ghost} {S0:St} {w:World} {rg:Nat} {L:df} {kk:Nat} (enc:α->AV) (hr:Rel G (stL S0 rg L) w) (hk:0<kk) :
    ∃rf gs G',rf≠rg/\(∀k,S0 rf k=none)/\G.le G'/\Rel G' (stL (dG S0 rf kk enc gs []) rg L) w:=by
  obtain⟨N,hN⟩:=hr.fin
  let rf:=max N (rg+1)
  have hne:rf≠rg:=by show max N (rg+1)≠rg;omega
  have hrf:∀k,S0 rf k=none:=λk=>by
    have:=hN rf (Nat.le_max_left _ _) k
    rwa[o8 hne] at this
  let gs:Nat->Nat:=λk=>(hr.fing rf k).choose
  have hgs:∀k,G.loc rf k (gs k)=none:=λk=>(hr.fing rf k).choose_spec _ (Nat.le_refl _)
  let L0:Loc:=⟨0,0,kk,0⟩
  let G':Ghost:={ G with loc:=λr k g=>if r=rf/\g=gs k then some L0 else G.loc r k g }
  have hle:G.le G':=by
    refine⟨⟨rfl,λ_ h=>h,rfl⟩,λ_ _ _ e=>e,λr k g L' e=>?_⟩
    show(if r=rf/\g=gs k then some L0 else G.loc r k g)=some L'
    split
    · rename_i hc;obtain⟨rfl,rfl⟩:=hc;rw[hgs] at e;cases e
    · exact e
  have hloc:∀k,G'.loc rf k (gs k)=some L0:=λk=>by
    show(if rf=rf/\gs k=gs k then some L0 else _)=_
    rw[if_pos ⟨rfl,rfl⟩]
  have hgetD:∀k,([]:List (List α)).getD k []=[]:=λ_=>rfl
  refine⟨rf,gs,G',hne,hrf,hle,?_⟩
  show Rel G' (stL (dG S0 rf kk enc gs ([]:List (List α))) rg L) w
  · show Rel G' (stL (dG S0 rf kk enc gs ([]:List (List α))) rg L) w
    have src:∀ {r k o g},stL (dG S0 rf kk enc gs ([]:List (List α))) rg L r k=some (o,g)->(r=rf/\o = .arr kk []/\g=gs k)\/(r≠rf/\stL S0 rg L r k=some (o,g)):=λ{r k o g} e=>by
      by_cases h:r=rf
      · subst h
        rw[uV hne,hgetD] at e
        cases e
        exact .inl ⟨rfl,rfl,rfl⟩
      · refine .inr ⟨h,?_⟩
        simp only[stL] at e ⊢
        split
        · rename_i h2;rw[if_pos h2] at e;exact e
        · rename_i h2;rw[if_neg h2,yu h] at e;exact e
    refine⟨hr.below,hr.imm,λr k o g' e=>?_,?_,⟨rf+1,λr hr' k=>?_⟩,λr k=>?_⟩
    · rcases src e with⟨rfl,rfl,rfl⟩ | ⟨h,e⟩
      · exact⟨L0,hloc k,⟨hk,rfl,by simp,by simp[L0,maxLen],λi h=>by simp at h,λh=>by simp[L0] at h⟩,λh=>by simp[L0] at h⟩
      · obtain⟨L1,q1,q2,q3⟩:=hr.obj _ _ _ _ e
        exact⟨L1,hle.loc _ _ _ _ q1,q2.keep hle (λ_=>rfl),q3⟩
    · intro r1 k1 o1 g1 r2 k2 o2 g2 L1 L2 e1 e2 l1 l2 c1 c2 hne'
      rcases src e1 with⟨rfl,rfl,rfl⟩ | ⟨h1,e1⟩
      · rw[hloc] at l1;cases l1;simp[L0] at c1
      · rcases src e2 with⟨rfl,rfl,rfl⟩ | ⟨h2,e2⟩
        · rw[hloc] at l2;cases l2;simp[L0] at c2
        · obtain⟨M1,q1,_⟩:=hr.obj _ _ _ _ e1
          obtain⟨M2,q2,_⟩:=hr.obj _ _ _ _ e2
          have a1:=hle.loc _ _ _ _ q1
          have a2:=hle.loc _ _ _ _ q2
          rw[l1] at a1;cases a1
          rw[l2] at a2;cases a2
          exact hr.inj _ _ _ _ _ _ _ _ _ _ e1 e2 q1 q2 c1 c2 hne'
    · have h3:=hN r (by have:rf+1<=r:=hr';have:rf=max N (rg+1):=rfl;omega) k
      cases e:stL (dG S0 rf kk enc gs ([]:List (List α))) rg L r k with
      | none=>rfl
      | some x=>
        obtain⟨o,g'⟩:=x
        rcases src e with⟨h,_,_⟩ | ⟨_,e⟩
        · omega
        · rw[h3] at e;cases e
    · obtain⟨M,hM⟩:=hr.fing r k
      refine⟨max M (gs k+1),λg' hg'=>?_⟩
      show(if r=rf/\g'=gs k then some L0 else G.loc r k g')=none
      rw[if_neg (λhc=>om)]
      exact hM g' om
section
variable {α:Type}
def lX (T:List (Int×List α)):List Int:=T.map (·.1)
def dg (T:List (Int×List α)):List (List α):=T.map (·.2)
def bx (T:List (Int×List α)) (i:Int):Nat:=(lX T).findIdx (λk=>k == i)
def cg (T:List (Int×List α)) (i:Int):List α:=(dg T).getD (bx T i) []
def d4 (T:List (Int×List α)) (i:Int) (l:List α):List (Int×List α):=if bx T i<T.length then T.set (bx T i) (i,l) else T++[(i,l)]
def ga (sh:KShape) (rf kk:Nat) (gs:Nat->Nat) (T:List (Int×List α)):GObj:=.mp sh T.length (λq=>match q with
  | [i]=>if bx T i<T.length then some (.sl kk rf (bx T i) (gs (bx T i)) 0 (cg T i).length) else none
  | _=>none)
variable {T:List (Int×List α)} {i:Int} {l:List α}
theorem iN:(lX T).length=T.length:=List.length_map ..
theorem qT:(dg T).length=T.length:=List.length_map ..
theorem oU:bx T i<=T.length:=by rw[<-iN];exact List.findIdx_le_length
theorem pS (h:bx T i<T.length):(lX T)[bx T i]'(by rw[iN];exact h)=i:=by
  have:=List.findIdx_getElem (p:=λk=>k == i) (xs:=lX T) (w:=by rw[iN];exact h)
  exact eq_of_beq this
theorem nP:lX (d4 T i l)=if bx T i<T.length then lX T else lX T++[i]:=by
  unfold d4
  split
  · rename_i h
    show(T.set (bx T i) (i,l)).map (·.1)=T.map (·.1)
    rw[List.map_set]
    have hk:=pS h
    refine List.ext_getElem (by simp) λj h1 h2=>?_
    rw[List.getElem_set]
    split
    · rename_i e
      subst e
      exact hk.symm
    · rfl
  · show(T++[(i,l)]).map (·.1)=_
    rw[List.map_append];rfl
theorem lF:(d4 T i l).length=if bx T i<T.length then T.length else T.length+1:=by
  unfold d4
  split
  · rw[List.length_set]
  · rw[List.length_append];rfl
theorem pR:bx (d4 T i l) i=bx T i:=by
  unfold bx
  rw[nP]
  split
  · rfl
  · rename_i h
    have he:(lX T).findIdx (λk=>k == i)=(lX T).length:=by
      have:=oU (T:=T) (i:=i)
      rw[iN]
      unfold bx at h this
      omega
    rw[List.findIdx_append,he,if_neg om]
    simp
theorem tH:bx (d4 T i l) i<(d4 T i l).length:=by
  rw[pR,lF]
  have:=oU (T:=T) (i:=i)
  split<;>omega
theorem rU {j:Int} (hj:j≠i):(bx (d4 T i l) j<(d4 T i l).length↔bx T j<T.length)/\(bx T j<T.length->bx (d4 T i l) j=bx T j/\bx T j≠bx T i):=by
  have hne:bx T j<T.length->bx T j≠bx T i:=λh he=>by
    have h1:=pS h
    have h2:(lX T)[bx T j]'(by rw[iN];exact h)=i:=by
      have h3:=pS (T:=T) (i:=i) om
      simp only[he]
      exact h3
    exact hj (h1.symm.trans h2)
  by_cases hp:bx T i<T.length
  · have e:bx (d4 T i l) j=bx T j:=by unfold bx;rw[nP,if_pos hp]
    have e2:(d4 T i l).length=T.length:=by rw[lF,if_pos hp]
    exact⟨by rw[e,e2],λh=>⟨e,hne h⟩⟩
  · have e2:(d4 T i l).length=T.length+1:=by rw[lF,if_neg hp]
    have hle:=oU (T:=T) (i:=j)
    have e:bx (d4 T i l) j=if bx T j<T.length then bx T j else T.length+1:=by
      unfold bx at hle ⊢
      rw[nP,if_neg hp,List.findIdx_append,iN]
      split
      · rfl
      · have:(List.findIdx (λk=>k == j) [i])=1:=by
          have hb:(i == j)=false:=beq_false_of_ne (Ne.symm hj)
          simp[List.findIdx_cons,hb]
        rw[this];omega
    refine⟨?_,λh=>⟨by rw[e,if_pos h],hne h⟩⟩
    rw[e,e2]
    split<;>omega
theorem ls (k:Nat):(dg (d4 T i l)).getD k []=if k=bx T i then l else (dg T).getD k []:=by
  have hle:=oU (T:=T) (i:=i)
  unfold d4
  split
  · rename_i h
    show((T.set (bx T i) (i,l)).map (·.2)).getD k []=_
    rw[List.map_set]
    simp only[List.getD_eq_getElem?_getD,List.getElem?_set]
    by_cases hk:bx T i=k
    · subst hk
      rw[if_pos rfl,if_pos rfl,if_pos (by rw[List.length_map];exact h)];rfl
    · rw[if_neg hk,if_neg (Ne.symm hk)];rfl
  · rename_i h
    have he:bx T i=T.length:=om
    show((T++[(i,l)]).map (·.2)).getD k []=_
    rw[List.map_append,he]
    simp only[List.getD_eq_getElem?_getD,List.getElem?_append,List.length_map]
    by_cases hk:k=T.length
    · subst hk
      rw[if_neg om,if_pos rfl];simp
    · rw[if_neg hk]
      by_cases h2:k<T.length
      · rw[if_pos h2];rfl
      · rw[if_neg h2]
        have:(dg T)[k]? = none:=List.getElem?_eq_none (by rw[qT];omega)
        rw[this,List.getElem?_eq_none (by simp;omega)]
theorem rp:cg (d4 T i l) i=l:=by unfold cg;rw[pR,ls,if_pos rfl]
theorem gI (h:¬bx T i<T.length):cg T i=[]:=by
  unfold cg
  rw[List.getD_eq_getElem?_getD,List.getElem?_eq_none (by rw[qT];omega)];rfl
theorem yn {sh:KShape} {rf kk g:Nat} {gs:Nat->Nat} (h:¬bx T i<T.length):ga sh rf kk (l9 gs (bx T i) g) T=ga sh rf kk gs T:=by
  unfold ga
  congr 1
  funext q
  match q with
  | []=>rfl
  | [j]=>
    dsimp only
    split
    · rename_i hj
      unfold l9
      rw[if_neg om]
    · rfl
  | _ :: _ :: _=>rfl
theorem xe {sh:KShape} {rf kk g:Nat} {gs:Nat->Nat}:(GObj.mp sh (bif ((λq:List Int=>match q with
      | [i]=>if bx T i<T.length then some (AV.sl kk rf (bx T i) (gs (bx T i)) 0 (cg T i).length) else none
      | _=>none) [i]).isSome then T.length else T.length+1) (λq=>if q=[i] then some (.sl kk rf (bx T i) g 0 l.length) else match q with
      | [i]=>if bx T i<T.length then some (AV.sl kk rf (bx T i) (gs (bx T i)) 0 (cg T i).length) else none
      | _=>none))=ga sh rf kk (l9 gs (bx T i) g) (d4 T i l):=by
  unfold ga
  congr 1
  · rw[lF]
    dsimp only
    split<;>rfl
  · funext q
    match q with
    | []=>rfl
    | _ :: _ :: _=>simp
    | [j]=>
      dsimp only
      by_cases hj:j=i
      · subst hj
        rw[if_pos rfl,if_pos tH,pR,rp]
        unfold l9
        rw[if_pos rfl]
      · obtain⟨h1,h2⟩:=rU (T:=T) (l:=l) hj
        rw[if_neg (by simpa using hj)]
        by_cases hp:bx T j<T.length
        · obtain⟨e,hn⟩:=h2 hp
          rw[if_pos hp,if_pos (h1.2 hp),e]
          unfold l9
          rw[if_neg hn]
          have:cg (d4 T i l) j=cg T j:=by
            unfold cg
            rw[e,ls,if_neg hn]
          rw[this]
        · rw[if_neg hp,if_neg (λhc=>hp (h1.1 hc))]
end
section
variable {α:Type} {S S0:St} {rf rg kk:Nat} {enc:α->AV} {gs:Nat->Nat} {T:List (Int×List α)} {L:df} {i:Int}
theorem xk (hne:rf≠rg) {g:Nat} {l:List α}:(stL (dG S0 rf kk enc gs (dg T)) rg L).set rf (bx T i) (.arr kk (l.map enc)) g=stL (dG S0 rf kk enc (l9 gs (bx T i) g) (dg (d4 T i l))) rg L:=by
  funext r k
  simp only[St.set,stL,dG]
  by_cases h1:r=rf
  · subst h1
    rw[if_neg hne,if_neg hne]
    simp only[if_true,ls,l9]
    by_cases h2:k=bx T i
    · rw[if_pos ⟨trivial,h2⟩,if_pos h2,if_pos h2]
    · rw[if_neg (λh=>h2 h.2),if_neg h2,if_neg h2]
  · rw[if_neg (λh=>h1 h.1)]
    simp only[if_neg h1]
theorem xl (hne:rf≠rg) {g:Nat} (h:¬bx T i<T.length):(stL (dG S0 rf kk enc gs (dg T)) rg L).set rf (bx T i) (.arr kk []) g=stL (dG S0 rf kk enc (l9 gs (bx T i) g) (dg T)) rg L:=by
  funext r k
  simp only[St.set,stL,dG]
  by_cases h1:r=rf
  · subst h1
    rw[if_neg hne,if_neg hne]
    simp only[if_true,l9]
    by_cases h2:k=bx T i
    · have h3:=gI h
      unfold cg at h3
      rw[if_pos ⟨trivial,h2⟩,if_pos h2,h2,h3];rfl
    · rw[if_neg (λh=>h2 h.2),if_neg h2]
  · rw[if_neg (λh=>h1 h.1)]
    simp only[if_neg h1]
theorem uW (hne:rf≠rg):stL (dG S0 rf kk enc gs (dg T)) rg L rf (bx T i)=some (.arr kk ((cg T i).map enc),gs (bx T i)):=uV hne _
end
theorem Wl.famM {α β:Type} {P:Program} {n:Nat} {ops c:List Oper} {Kt:Env->St->Prop} {t:Env} {S0:St} {rg K g:Nat} {L:df} {sh:KShape} {enc0:β->AV} (kk:Nat) (enc:α->AV) (hS:lkp L K=some (vS enc0 sh xc,g)) (hk:0<kk)
    (h:∀rf gs,rf≠rg->(∀k,S0 rf k=none)->Wl P n ops c Kt t (stL (dG S0 rf kk enc gs (dg ([]:List (Int×List α)))) rg ((K,ga sh rf kk gs ([]:List (Int×List α)),g) :: L))):Wl P n ops c Kt t (stL S0 rg L):=by
  intro hok ro G a w Q hr ht hQ
  obtain⟨rf,gs,G',h1,h2,h3,h4⟩:=hr.famMake0 enc hk
  refine h rf gs h1 h2 hok ro G' a w Q ?_ (ht.mono h3) (λa w hl=>hQ a w (Gg.lift_mono hl h3))
  have e:ga sh rf kk gs ([]:List (Int×List α))=vS enc0 sh xc:=by
    unfold ga vS
    congr 1
    funext q
    match q with
    | []=>rfl
    | [_]=>rfl
    | _ :: _ :: _=>rfl
  rw[e,<-fQ]
  have e2:(stL (dG S0 rf kk enc gs (dg ([]:List (Int×List α)))) rg L).set rg K (vS enc0 sh xc) g=stL (dG S0 rf kk enc gs []) rg L:=by
    funext r k
    simp only[St.set]
    split
    · rename_i hc;obtain⟨rfl,rfl⟩:=hc;rw[hZ,hS]
    · rfl
  rw[e2]
  exact h4
section
variable {α:Type} {P:Program} {n:Nat} {rg rf kk:Nat} {enc:α->AV} {gs:Nat->Nat} {T:List (Int×List α)} {t:Env} {S0:St} {L:df} {x y a:Operand} {i:Int} {d:Option Nat} {Ty e kt et:TypeId} {sh:KShape}
theorem tq {S:St} {K:AV->St->Prop} {k g:Nat} (hS:S rg k=some (ga sh rf kk gs T,g)) (hT:td P Ty = .map kt et) (hk:di P kt=some sh) (hok:c7 P et=true) (hx:ev t x = .map rg k g) (hi:f_ sh (ev t y)=some [i]) (hp:bx T i<T.length)
    (h:K (.sl kk rf (bx T i) (gs (bx T i)) 0 (cg T i).length) S):vo P rg d (.lookup Ty x y false) t S K:=by
  rw[vo_lookup,hx]
  simp only[eI,hS,ga,hT,hi]
  refine⟨⟨trivial,hk,hok⟩,?_⟩
  rw[if_pos hp]
  exact h
theorem tr {S:St} {K:AV->St->Prop} {k g:Nat} (hS:S rg k=some (ga sh rf kk gs T,g)) (hT:td P Ty = .map kt et) (hk:di P kt=some sh) (hok:c7 P et=true) (hz:zav P et = .nil) (hx:ev t x = .map rg k g) (hi:f_ sh (ev t y)=some [i]) (hp:¬bx T i<T.length)
    (h:K .nil S):vo P rg d (.lookup Ty x y false) t S K:=by
  rw[vo_lookup,hx]
  simp only[eI,hS,ga,hT,hi]
  refine⟨⟨trivial,hk,hok⟩,?_⟩
  rw[if_neg hp,hz]
  exact h
theorem Wl.matG {ops rest:List Oper} {Kt:Env->St->Prop} {S:St} (d q k kk:Nat) (h0:t d = .nil) (hk:0<kk) (h:∀g,Wl P n ops rest Kt (upd t d (.sl kk q k g 0 0)) (S.set q k (.arr kk []) g)):Wl P n ops rest Kt t S:=by
  intro hok ro G a w Q hr ht hQ
  obtain⟨g,G',q1,q2,q3⟩:=hr.mat q k kk hk
  refine h g hok ro G' a w Q q2 ⟨ht.1.mono q1,ht.2.1,λi=>?_⟩ (λa w hl=>hQ a w (Gg.lift_mono hl q1))
  unfold upd
  split
  · rename_i e
    subst e
    have:=ht.2.2 i
    rw[h0] at this
    generalize a.tmps.getD i undef=x at this ⊢
    cases this
    exact q3
  · exact(ht.2.2 i).mono q1
theorem Wl.lookF {ops rest:List Oper} {Kt:Env->St->Prop} {ty:TypeId} {pos:String} {after:Array Edge} {K g d:Nat} (hS:lkp L K=some (ga sh rf kk gs T,g)) (hT:td P Ty = .map kt et) (hk:di P kt=some sh) (hok:c7 P et=true) (hz:zav P et = .nil) (hx:ev t x = .map rg K g) (hi:f_ sh (ev t y)=some [i])
    (hne:rf≠rg) (hkk:0<kk) (h:∀gs',Wl P n ops rest Kt (upd t d (.sl kk rf (bx T i) (gs' (bx T i)) 0 (cg T i).length)) (stL (dG S0 rf kk enc gs' (dg T)) rg ((K,ga sh rf kk gs' T,g) :: L))) :
    Wl P n ops (⟨some d,.lookup Ty x y false,ty,pos,after,none⟩ :: rest) Kt t (stL (dG S0 rf kk enc gs (dg T)) rg L):=by
  have self:stL (dG S0 rf kk enc gs (dg T)) rg ((K,ga sh rf kk gs T,g) :: L)=stL (dG S0 rf kk enc gs (dg T)) rg L:=by
    rw[<-fQ]
    funext r k
    simp only[St.set]
    split
    · rename_i hc;obtain⟨rfl,rfl⟩:=hc;rw[hZ,hS]
    · rfl
  by_cases hp:bx T i<T.length
  · refine wZ rg (tq (by rw[hZ];exact hS) hT hk hok hx hi hp ?_)
    have:=h gs
    rw[self] at this
    exact this
  · refine wZ rg (tr (by rw[hZ];exact hS) hT hk hok hz hx hi hp ?_)
    refine Wl.matG d rf (bx T i) kk (by show upd t d .nil d = .nil;simp[upd]) hkk (λg'=>?_)
    have:=h (l9 gs (bx T i) g')
    rw[yn hp,<-xl hne hp,gI hp] at this
    have e:(stL (dG S0 rf kk enc gs (dg T)) rg ((K,ga sh rf kk gs T,g) :: L)).set rf (bx T i) (.arr kk []) g'=(stL (dG S0 rf kk enc gs (dg T)) rg L).set rf (bx T i) (.arr kk []) g':=by rw[self]
    rw[e] at this
    have e2:upd (ct t (some d) .nil) d (.sl kk rf (bx T i) g' 0 0)=upd t d (.sl kk rf (bx T i) g' 0 0):=by
      funext k
      simp only[ct,upd]
      split<;>rfl
    rw[e2]
    have e3:l9 gs (bx T i) g' (bx T i)=g':=by simp[l9]
    rw[e3] at this
    exact this
theorem yf {K:AV->St->Prop} {b g m:Nat} {xs:List α} {z:AV} (hne:rf≠rg) (hT:td P Ty = .slice e) (hb:bts P e=b) (hok:c7 P e=true) (hz:zav P e=z) (hg:gs (bx T i)=g) (hn:m=(cg T i).length) (hx:jZ (stL (dG S0 rf kk enc gs (dg T)) rg L) (ev t y)=some (xs.map enc)) (hk:z.cells.length=kk) (hx0:ev t x = .sl kk rf (bx T i) g 0 m)
    (hone:∀z,dV (enc z).cells=true) (hkk:∀z,(enc z).cells.length=kk) (hbd:(cg T i++xs).length*b<=140737488355328) (hb0:Nat.ble 1 b=true)
    (h:∀g,K (.sl kk rf (bx T i) g 0 (cg T i++xs).length) (stL (dG S0 rf kk enc (l9 gs (bx T i) g) (dg (d4 T i (cg T i++xs)))) rg L)) :
    vo P rg d (.call { callee:=.builtin .append,args:=#[x,y],argTypes:=#[Ty,Ty] }) t (stL (dG S0 rf kk enc gs (dg T)) rg L) K:=by
  subst hg
  exact ck (es:=cg T i) hT hb hok hz (uW hne) hn hx hk hx0 hone hkk hbd hb0 (λg=>xk hne) h
theorem yd {K:AV->St->Prop} {S S':St} {k g g1 m:Nat} {l:List α} (hS:S rg k=some (ga sh rf kk gs T,g)) (hT:td P Ty = .map kt et) (hk:di P kt=some sh) (hy:ev t y = .map rg k g) (hi:f_ sh (ev t a)=some [i]) (hx:ev t x = .sl kk rf (bx T i) g1 0 m) (hm:m=l.length)
    (hp:S.set rg k (ga sh rf kk (l9 gs (bx T i) g1) (d4 T i l)) g=S') (h:K .junk S'):vo P rg d (.mapUpdate Ty y a x) t S K:=by
  subst hm
  rw[vo_mapUpd,hy]
  unfold ga at hS
  simp only[dl,hS,hT,hi]
  refine⟨⟨trivial,hk⟩,?_⟩
  rw[hx]
  have e:=xe (T:=T) (i:=i) (l:=l) (sh:=sh) (rf:=rf) (kk:=kk) (g:=g1) (gs:=gs)
  dsimp only at e ⊢
  rw[e,hp]
  exact h
end
def oSl (e:Option Int) (v:AV):AV:=bif e.isSome then .nil else v
theorem zU {e:Option Int} {v:AV} (h:e.isSome=false):VW (oSl e v) v:=by rw[oSl,h];exact VW.refl _
theorem zu {t:Env} {S:St} {es:List (Nat×AV)} (hf:Fit t es):EWk t S (aQ es) S:=λ_ G _ _ hr ht=>⟨G,Ghost.le.refl G,hr,ht.1,ht.2.1,λi=>hf.vw i G _ (ht.2.2 i)⟩
end Go.Gg
