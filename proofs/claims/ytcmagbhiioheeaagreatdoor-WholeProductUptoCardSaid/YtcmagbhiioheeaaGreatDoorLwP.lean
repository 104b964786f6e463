/- The law WholeProduct, over the formula and the rates. Conditions: the arguments' words are words, their lists are short; the self-test and the size test as told. -/
import Derived.Test.YtcmagbhiioheeaaGreatDoorMb
import Derived.Test.YtcmagbhiioheeaaGreatDoorWa
open List (range)
namespace Go.Gg
def smR (a:GRat):Prop:=okR a=true/\0<=aF a/\RB 10 (aF a)
theorem mM {a:GRat} (h:smR a):dq a=true:=by
  unfold dq
  rw[h.1,Bool.true_and]
  refine decide_eq_true ?_
  rcases Int.lt_or_le (gi (aF a)) 0 with h1 | h1
  · exact absurd h.2.1 (Rat.not_le.2 (qL.1 h1))
  · exact h1
set_option maxHeartbeats 1000000 in
theorem pV {f:GFormula} {fail repair:List GRat} {Q:Bool->Prop} (ha:∀Q:Bool->Prop,Q true->fP Q) (hrd:∀Q:Bool->Prop,(∀b,(b=true->jQ f=0)->Q b)->jE f Q)
    (ht:rng f.Z) (w1:∀i:Nat,i<fail.length->WrR (at' fail (i:Int))/\Fr (at' fail (i:Int))) (w2:∀i:Nat,i<repair.length->WrR (at' repair (i:Int))/\Fr (at' repair (i:Int))) (h:Q true):ia f fail repair Q:=by
  unfold ia
  refine⟨λy=>y=false->jQ f=0/\1<=f.A/\f.A<=4/\(fail.length:Int)=f.A/\(repair.length:Int)=f.A,?_,?_⟩
  · refine ha _ (aJ (λhh=>by cases hh) λ_=>hrd _ λb hb=>aJ (λ_ hh=>by cases hh) λhb2=>?_)
    have hck:=hb (by simpa using hb2)
    refine condT (λ_ hh=>by cases hh) λh1=>condT (λ_ hh=>by cases hh) λh4=>ga (λ_ hh=>by cases hh) λh5 hh=>?_
    exact⟨hck,om,om,h5,by simpa using hh⟩
  intro y hy
  refine aJ (λ_=>ha _ h) λhf=>?_
  obtain⟨hck,hv1,hv4,hfl,hrl⟩:=hy hf
  have g:=lJ.1 hck
  have eapp:(([]:List GRat)++fail)=fail:=List.nil_append _
  rw[eapp]
  have hal:(fail++repair).length=fail.length+repair.length:=List.length_append ..
  have atl:∀i:Nat,i<fail.length->at' (fail++repair) (i:Int)=at' fail (i:Int):=λi hi=>fD om om
  have atr:∀i:Nat,i<repair.length->at' (fail++repair) ((fail.length+i:Nat):Int)=at' repair (i:Int):=λi hi=>by
    have h1:fail.length+i<(fail++repair).length:=om
    rw[bX h1,bX hi,List.getElem_append_right om]
    congr 1
    omega
  have wa:∀i:Nat,i<(fail++repair).length->WrR (at' (fail++repair) (i:Int))/\Fr (at' (fail++repair) (i:Int)):=λi hi=>by
    rcases Nat.lt_or_ge i fail.length with h1 | h1
    · rw[atl i h1];exact w1 i h1
    · have:=atr (i-fail.length) om
      rw[show fail.length+(i-fail.length)=i by omega] at this
      rw[this];exact w2 _ om
  refine⟨om,om,?_⟩
  refine pF (n:=(fail++repair).length) (λi=>¬smR (at' (fail++repair) (i:Int))) om (λi next hi _ hnx=>?_) λhall=>?_
  · obtain⟨hw,hF⟩:=wa i hi
    generalize at' (fail++repair) (i:Int)=a at *
    refine⟨⟨om,om⟩,pH hF (aJ (λ_=>h) λho=>xQ hF (condT (λ_=>h) λhs=>condT (λ_=>h) λhn1=>condT (λ_=>h) λhd1=>?_))⟩
    have ho:okR a=true:=by simpa using ho
    have hs0:0<=aF a:=by
      rcases Rat.le_total (a:=0) (b:=aF a) with h1 | h1
      · exact h1
      · rcases Rat.le_iff_lt_or_eq.1 h1 with h2 | h2
        · exact absurd (qL.2 h2) hs
        · rw[h2];exact Rat.le_refl
    refine bv (λhn=>⟨⟨om,om⟩,condT (λ_=>h) λhn2=>⟨⟨om,?_⟩,condT (λ_=>h) λhd2=>hnx λhh=>hh ⟨ho,hs0,Ha ho om om (λ_=>⟨om,om⟩) hw⟩⟩⟩) λhn=>hnx λhh=>hh ⟨ho,hs0,Ha ho om om (λe=>absurd om hn) hw⟩
    have:=xY hw.1 hw.2
    rw[ho,if_neg om] at this
    have h2:fH a.W=true:=by
      have:=this.symm
      simp only[Bool.and_eq_true] at this
      exact this.2.1
    unfold fH at h2
    simp only[Bool.and_eq_true,decide_eq_true_eq] at h2
    omega
  have sf:∀i:Nat,i<fail.length->smR (at' fail (i:Int)):=λi hi=>by
    have:=Classical.not_not.1 (hall i om)
    rw[atl i hi] at this;exact this
  have sr:∀i:Nat,i<repair.length->smR (at' repair (i:Int)):=λi hi=>by
    have:=Classical.not_not.1 (hall (fail.length+i) om)
    rw[atr i hi] at this;exact this
  refine bQ (n:=fail.length) (λi (y:Int×List GRat)=>y.1=(i:Int)/\y.2.length=i/\∀j:Nat,j<i->aF (at' fail (j:Int))+aF (at' repair (j:Int))≠0/\at' y.2 (j:Int)=ay (ba fail repair j)) (λy=>y.1) 0
    (λi y h=>by rw[h.1];omega) ⟨rfl,rfl,λj hj=>absurd hj om⟩ ?_ ?_
  · rintro i ⟨x,q⟩ next hi ⟨hx,hq,hI⟩ hnx
    dsimp only at hx hq hI ⊢
    subst hx
    have s1:=sf i hi
    have s2:=sr i om
    refine condT (λ_=>⟨⟨om,om⟩,⟨om,om⟩,_,_,iX (k:=10) (w1 i hi).2 (w2 i om).2 s1.2.2 s2.2.2 om ⟨rfl,rfl⟩,?_⟩) (λhh=>absurd hh om)
    by_cases hz:aF (at' fail (i:Int))+aF (at' repair (i:Int))=0
    · have e:Au (at' fail (i:Int)) (at' repair (i:Int))=(ay 0,8):=by
        unfold Au
        rw[if_neg (by rw[mM s1,mM s2];simp),if_pos hz]
      rw[e]
      exact aJ (λ_=>aJ (λ_=>h) λhh=>by cases hh) λhh=>by cases hh
    · rw[Bo (mM s1) (mM s2) hz]
      refine aJ (λhh=>by cases hh) λ_=>⟨by simp;omega,zRg,hnx _ ⟨by simp,by simp[hq],λj hj=>?_⟩⟩
      dsimp only
      by_cases e:j=i
      · subst e
        have e1:at' (q++[ay (aF (at' fail (j:Int)) / (aF (at' fail (j:Int))+aF (at' repair (j:Int))))]) (j:Int)=ay (ba fail repair j):=by
          rw[<-hq]
          exact gA
        exact⟨hz,e1⟩
      · rw[fD om om];exact hI j om
  rintro⟨x,q⟩ next ⟨hx,hq,hI⟩
  dsimp only at hx hq hI ⊢
  subst hx
  refine condT (λhh=>absurd hh om) λ_=>?_
  have px:PX fail repair:=⟨λi hi=>⟨(w1 i hi).2,(sf i hi).2.2⟩,λi hi=>⟨(w2 i hi).2,(sr i hi).2.2⟩,om,om,om,λi hi=>⟨⟨mM (sf i hi),mM (sr i om)⟩,(hI i hi).1⟩⟩
  have hE:jg fail repair=0:=by
    unfold jg
    rw[if_neg om,if_neg om,if_neg,if_neg]
    · rintro⟨i,hi,hb⟩
      exact(hI i hi).1 hb
    · rintro⟨i,hi,hb⟩
      rw[(px.all i hi).1.1,(px.all i hi).1.2] at hb
      rcases hb with hb | hb<;>cases hb
  have hv:f.A=(fail.length:Int):=om
  refine tx (k:=10) om px.hf px.hr ht ?_
  have eC:vU fail repair f=(pcC fail repair ((range (2^fail.length)).map (FV f)),0):=by
    unfold vU
    rw[if_neg (λhh=>hh hE),if_neg (λhh=>hh hck),if_neg (λhh=>hh hv)]
    rfl
  rw[eC]
  refine oC (k:=10) om om px.hf px.hr ?_
  have eS:y_ fail repair=(Lst (ba fail repair) fail.length,0):=by
    unfold y_
    rw[if_pos hE]
  rw[eS]
  have hvn:f.A.toNat=fail.length:=om
  have hu:=λ(i:Nat) (hi:i<fail.length)=>px.pq.u01 hi
  have hPL:PL q (ba fail repair) f.A.toNat:=by
    rw[hvn]
    refine⟨hq,λv hv=>?_,hu⟩
    rw[(hI v hv).2]
    exact .of ((xB (k:=10) om px.hf px.hr px.hl hv).1.mono om) (by decide)
  have hD:((range (2^fail.length)).map (FV f)).length=2^fail.length:=by simp
  refine abu g ht hPL (λi hi=>?_) (λord hO hlo Q' _ hQ'=>tJ ht (λhne=>absurd (oR.2 ⟨g,hO,hlo⟩) hne) (λ_=>om) λ_=>hQ') (λhT=>?_)
  · rw[hvn] at hi
    rw[(hI i hi).2]
    unfold wQ
    rw[je,aU]
    have:=hu i hi
    rw[decide_eq_true this.1,decide_eq_true this.2];rfl
  have eX:=Je (p:=ba fail repair) hv
  have eD:aB (λt=>if at' ((range (2^fail.length)).map (FV f)) (t:Int)=true then pr (ba fail repair) fail.length t else 0) (2^fail.length)=exF (ba fail repair) f:=by
    rw[eX]
    refine aX _ λt ht=>?_
    rw[lL ht]
  refine aJ (λhh=>by cases hh) λ_=>aJ (λhh=>by cases hh) λ_=>aJ (λhh=>by cases hh) λ_=>?_
  refine zp px hD λl hl=>?_
  refine AH px hD ?_
  refine HJ px hD λhRB=>?_
  rw[eD] at hRB ⊢
  have hll:=hl.1
  have hLl:(Lst (ba fail repair) fail.length).length=2^fail.length:=nS
  have p1:=px.p16
  refine aJ (λhh=>by cases hh) λ_=>aJ (λhh=>by cases hh) λ_=>aJ (λhh=>by cases hh) λ_=>aJ (λhh=>by cases hh) λ_=>?_
  refine ga (λhh=>absurd (show(l.length:Int)=((Lst (ba fail repair) fail.length).length:Int) by omega) hh) λ_=>?_
  refine PA (.of hRB (by decide)) hT (by decide) ?_
  have e0:∀q:Rat,gi (q-q)=0:=λq=>jq.2 (gf.2 rfl)
  rw[e0]
  refine ga (λhh=>absurd rfl hh) λ_=>?_
  refine pF (n:=(Lst (ba fail repair) fail.length).length) (λ_=>False) om (λi next2 hi _ hnx=>⟨⟨om,om⟩,⟨om,om⟩,?_⟩) λ_=>h
  rw[hLl] at hi
  rw[yx hi]
  refine GQ (.of (px.prb i) (by decide)) (hl.2 i hi) (by decide) ?_
  rw[e0]
  exact ga (λhh=>absurd rfl hh) λ_=>hnx λhh=>hh
end Go.Gg
