/- The law WholeCuts, over the formula. Conditions: the numbers are words, the list of nodes and the arguments' lists are short. -/
import Derived.Test.YtbnjpdocceckeaaGreatMa
import Derived.Test.YtbnjpdocceckeaaGreatMc
import Derived.Test.YtbnjpdocceckeaaGreatWa
set_option linter.all false
open Option (isNone isSome)
namespace Go.Gg
def uJ(f:GFormula):Nat->Nat
 | 0=>0
 | k+1=>uJ f k+(P9 f.N (k:Int)).Z.length
variable{Q:Bool->Prop}{f:GFormula}
theorem Cw(ht:Qe f.A)(hl:f.N.length<=9223372036854775807)(hs:∀k,k<=f.N.length->uJ f k<=9223372036854775807)(h:∀b,(b=true->qw f=0/\f.Y<=8/\f.N.length<=16)->Q b):oO f Q:=by
 unfold oO qX;have hf:Q false:=h false λe=>by cases e
 refine gB (n:=f.N.length) (λi=>((uJ f i:Int),(i:Int))) (λy=>y.2) 0 (λi=>by dsimp only;omega) rfl ?_ ?_;·grind [uJ,Qb,Qe]
 ·grind [aB,zQ]
def Ae:GFormula:=⟨3,[(⟨4,2,[0,1,2]⟩:QN)],3⟩
theorem EW:FG Ae:=kM.1 (by decide +kernel)
theorem Cr:Vu Ae:=λk hk _=>by
 have:k=0:=by have:k<1:=hk;omega
 subst this;decide
theorem Gd:Li Ae:=⟨by decide,by decide,λt ht=>by
 have:t=0:=by have:t<1:=ht;omega
 subst this;decide⟩
theorem Ad:Qw 3 (FV Ae) [3,5,6]:=by
 refine⟨⟨?_,?_⟩,?_,?_⟩;·unfold qP;decide
 ·have h:∀a∈[3,5,6],∀b∈[3,5,6],a &&& b=a->a=b:=by decide
  exact λa ha b hb hs=>h a ha b hb (fB.1 hs)
 ·decide
 ·have h:∀s,s<2^3->((∃t∈[3,5,6],t &&& s=t)↔FV Ae s=true):=by decide +kernel
  intro s hs;rw[<-h s hs];exact⟨λ⟨t,ht,hts⟩=>⟨t,ht,fB.1 hts⟩,λ⟨t,ht,hts⟩=>⟨t,ht,fB.2 hts⟩⟩
theorem Gc:Qw 3 (gd 3 (FV Ae)) [3,5,6]:=Ad.congr (by decide +kernel)
theorem xo{a b:List Nat}(h:a=b)(la:a.length<=1000000)(hQ:Q true):bw (up a) (up b) Q:=Ds (by rw[cC];omega) (by rw[decide_eq_true (by rw[h])];exact hQ)
theorem AQ(h:Q true):je Q:=by have e:([3,5,6]:List Int)=up [3,5,6]:=rfl;unfold je qe;refine A_ EW (by decide) (by decide) Cr (λhT=>absurd Gd hT) λm hm=>?_;obtain rfl:=hm.uniq Ad;refine Cf EW (by decide) Cr λp hp=>?_;obtain rfl:=hp.uniq Gc;refine aB (λ_=>aB (λ_=>?_) (λhc=>by cases hc)) (λhc=>by cases hc);rw[e];exact xo rfl (by decide) (aB (λ_=>xo rfl (by decide) h) (λhc=>by cases hc))
theorem IV{e c:Int}(h:Q (e==c)):cS (some e) c Q:=aB (λ_=>h) (λhc=>by cases hc)
theorem KT(h:Q true):fq (some 4) Q:=IV h
theorem DP(g:FG f)(hV:f.Y<=8):Rv (p_ f)/\((p_ f).length:Int)=f.Y:=by
 have v0:=g.v0;have hp:(p_ f).Perm (ry f.Y.toNat):=qs _;have hl:(p_ f).length=f.Y.toNat:=by rw[hp.length_eq,jm]
 refine⟨Ft om (hp.nodup_iff.2 ?_) λx hx=>?_,om⟩;·rw[ry,List.Nodup,List.pairwise_map];exact List.nodup_range.imp λh e=>h om
 ·grind [yv]
theorem K6(g:FG f)(hV:f.Y<=8)(hN:f.N.length<=16)(hc:Vu f){o:List Int}(ho:Rv o)(VT:(o.length:Int)=f.Y)(h:Q true) :fA f λr3 r4=>eZ f λr5 r6=>jR f o λr7 r8=>eA f λr9 SP=>
   cJ f λXf XH=>(af (isSome (none:Option Int))
    (Q false)
    (af (isSome XH)
     (Q false)
     (af (!Xf)
      (cS r4 7 λYy=>
      af Yy
       (cS r6 7 λXe=>
       af Xe
        (cS r8 7 λZP=>
        af ZP
         (cS SP 7 λZO=>
         Q ZO)
         (Q false))
        (Q false))
       (Q false))
      (aO (σ:=Int) 0 λx1 Qc=>
       af (decide (x1<([r4,r6,r8,SP].length:Int)))
        (((0:Int)<=x1/\x1<([r4,r6,r8,SP].length:Int))/\
        af (isSome (P9 [r4,r6,r8,SP] x1))
         (fq (P9 [r4,r6,r8,SP] x1) λZM=>
         af (!ZM)
          (Q false)
          (Qe (x1+1)/\
          Qc (x1+1)))
         (Qe (x1+1)/\
         Qc (x1+1)))
        (af (isSome r8)
         (Q true)
         (bV (α:=Unit) (λQD=>
          af (isNone r4)
           (bw r3 r7 λZG=>
           af (!ZG)
            (Q false)
            (af (isNone r6)
             (bw r5 r7 λZF=>
             af (!ZF)
              (Q false)
              (QD ()))
             (QD ())))
           (af (isNone r6)
            (bw r5 r7 λZD=>
            af (!ZD)
             (Q false)
             (QD ()))
            (QD ())))
          λ_=>
          bV (α:=Unit) (λnext3=>
           af (isNone SP)
            (ii r9 λXd U3=>
            af (isSome U3)
             (fq U3 λZK=>
             af (!ZK)
              (Q false)
              (af (isNone U3)
               (bw Xd r7 λZJ=>
               af (!ZJ)
                (Q false)
                (next3 ()))
               (next3 ())))
             (af (isNone U3)
              (bw Xd r7 λZH=>
              af (!ZH)
               (Q false)
               (next3 ()))
              (next3 ())))
            (next3 ()))
           λ_=>
           jN f λT3 ZL=>
           af (isSome ZL)
            (Q false)
            (af ((T3.length:Int) != (r7.length:Int))
             (Q false)
             (aO (σ:=Int) 0 λx2 Qd=>
              af (decide (x2<(T3.length:Int)))
               (((0:Int)<=x2/\x2<(T3.length:Int))/\
               af ((P9 T3 x2).No != 0)
                (Q false)
                (((0:Int)<=x2/\x2<(r7.length:Int))/\
                af ((P9 T3 x2).H != (P9 r7 x2))
                 (Q false)
                 (Qe (x2+1)/\
                 Qd (x2+1))))
               (Q true))))))))):=by
 have v0:=g.v0
 have key:∀(r3 r7:List Int) (r4 r8:Option Int) (m5 p9:List Nat),Qw f.Y.toNat (FV f) m5->Qw f.Y.toNat (gd f.Y.toNat (FV f)) p9->(r4=some 4\/r4=none/\r3=up m5)->(r8=some 4\/r8=none/\r7=up m5)->
   (λ(r3:List Int) (r4:Option Int) (r5:List Int) (r6:Option Int) (r7:List Int) (r8:Option Int) (r9:List Int) (SP:Option Int) (Xf:Bool) (XH:Option Int)=>(af (isSome (none:Option Int))
    (Q false)
    (af (isSome XH)
     (Q false)
     (af (!Xf)
      (cS r4 7 λYy=>
      af Yy
       (cS r6 7 λXe=>
       af Xe
        (cS r8 7 λZP=>
        af ZP
         (cS SP 7 λZO=>
         Q ZO)
         (Q false))
        (Q false))
       (Q false))
      (aO (σ:=Int) 0 λx1 Qc=>
       af (decide (x1<([r4,r6,r8,SP].length:Int)))
        (((0:Int)<=x1/\x1<([r4,r6,r8,SP].length:Int))/\
        af (isSome (P9 [r4,r6,r8,SP] x1))
         (fq (P9 [r4,r6,r8,SP] x1) λZM=>
         af (!ZM)
          (Q false)
          (Qe (x1+1)/\
          Qc (x1+1)))
         (Qe (x1+1)/\
         Qc (x1+1)))
        (af (isSome r8)
         (Q true)
         (bV (α:=Unit) (λQD=>
          af (isNone r4)
           (bw r3 r7 λZG=>
           af (!ZG)
            (Q false)
            (af (isNone r6)
             (bw r5 r7 λZF=>
             af (!ZF)
              (Q false)
              (QD ()))
             (QD ())))
           (af (isNone r6)
            (bw r5 r7 λZD=>
            af (!ZD)
             (Q false)
             (QD ()))
            (QD ())))
          λ_=>
          bV (α:=Unit) (λnext3=>
           af (isNone SP)
            (ii r9 λXd U3=>
            af (isSome U3)
             (fq U3 λZK=>
             af (!ZK)
              (Q false)
              (af (isNone U3)
               (bw Xd r7 λZJ=>
               af (!ZJ)
                (Q false)
                (next3 ()))
               (next3 ())))
             (af (isNone U3)
              (bw Xd r7 λZH=>
              af (!ZH)
               (Q false)
               (next3 ()))
              (next3 ())))
            (next3 ()))
           λ_=>
           jN f λT3 ZL=>
           af (isSome ZL)
            (Q false)
            (af ((T3.length:Int) != (r7.length:Int))
             (Q false)
             (aO (σ:=Int) 0 λx2 Qd=>
              af (decide (x2<(T3.length:Int)))
               (((0:Int)<=x2/\x2<(T3.length:Int))/\
               af ((P9 T3 x2).No != 0)
                (Q false)
                (((0:Int)<=x2/\x2<(r7.length:Int))/\
                af ((P9 T3 x2).H != (P9 r7 x2))
                 (Q false)
                 (Qe (x2+1)/\
                 Qd (x2+1))))
               (Q true)))))))))) r3 r4 (up m5) none r7 r8 (up p9) none true none:=by
  intro r3 r7 r4 r8 m5 p9 hm hp h4 h8;have UX:m5.length<=1000000:=Nat.le_trans (hm.Zp om).le (by decide);refine aB (λhh=>by cases hh) (λ_=>aB (λhh=>by cases hh) (λ_=>aB (λhh=>by cases hh) (λ_=>?_)))
  have adY:∀i:Nat,i<4->P9 [r4,none,r8,none] (i:Int)=none\/P9 [r4,none,r8,none] (i:Int)=some 4:=λi hi=>by
   rcases (by omega:i=0\/i=1\/i=2\/i=3)with rfl|rfl|rfl|rfl
   ·rcases h4 with h4|⟨h4,_⟩<;>rw[h4];·exact .inr rfl
    ·exact .inl rfl
   ·exact .inl rfl
   ·rcases h8 with h8|⟨h8,_⟩<;>rw[h8];·exact .inr rfl
    ·exact .inl rfl
   ·exact .inl rfl
  refine gB (n:=4) (λi=>(i:Int)) (λy=>y) 0 (λi=>om) rfl ?_ ?_;·grind [aB,Qe,KT]
  ·intro next
   refine Qb (λhh=>absurd hh (show ¬((4:Nat):Int)<4 by omega)) (λ_=>?_)
   rcases h8 with h8|⟨h8,h7⟩;·grind [aB]
   subst h8 h7;refine aB (λhh=>by cases hh) (λ_=>⟨λ_=>True,?_,λ_ _=>⟨λ_=>True,?_,λ_ _=>?_⟩⟩);·grind [aB,xo]
   ·refine aB (λ_=>?_) (λhh=>by cases hh);refine OH (n:=f.Y.toNat) (F:=FV f) om hp λq hq=>?_;obtain rfl:=hq.uniq hm;exact aB (λhh=>by cases hh) (λ_=>aB (λ_=>xo rfl UX (aB (λhh=>by cases hh) (λ_=>trivial))) (λhh=>by cases hh))
   ·refine Lo g hV hc λq hq=>?_;obtain rfl:=hq.uniq hm;have UE:((wQ q).length:Int)=(q.length:Int):=by rw[wQ,List.length_map]
    have XY:((up q).length:Int)=(q.length:Int):=by rw[cC]
    refine aB (λhh=>by cases hh) (λ_=>iY (λhh=>absurd (by rw[UE,XY]) hh) (λ_=>?_))
    refine gB (n:=q.length) (λi=>(i:Int)) (λy=>y) 0 (λi=>om) rfl ?_ ?_
    ·intro i next hi hn
     have hn':next ((i:Int)+1):=by simpa using hn
     have Tg:P9 (wQ q) (i:Int)=⟨((q[i]:Nat):Int),0⟩:=by grind [uI,wQ]
     refine Qb (λ_=>⟨⟨om,om⟩,?_⟩) (λhh=>absurd om hh);rw[Tg];refine iY (λhh=>absurd rfl hh) (λ_=>⟨⟨om,om⟩,?_⟩)
     rw[qA hi];exact iY (λhh=>absurd rfl hh) (λ_=>⟨Qo,hn'⟩)
    ·grind [Qb]
 have bot:∀(r3:List Int) (r4:Option Int),(r4=some 4\/r4=none/\∀m,Qw f.Y.toNat (FV f) m->r3=up m)->eZ f λr5 r6=>jR f o λr7 r8=>eA f λr9 SP=>cJ f λXf XH=>(af (isSome (none:Option Int))
    (Q false)
    (af (isSome XH)
     (Q false)
     (af (!Xf)
      (cS r4 7 λYy=>
      af Yy
       (cS r6 7 λXe=>
       af Xe
        (cS r8 7 λZP=>
        af ZP
         (cS SP 7 λZO=>
         Q ZO)
         (Q false))
        (Q false))
       (Q false))
      (aO (σ:=Int) 0 λx1 Qc=>
       af (decide (x1<([r4,r6,r8,SP].length:Int)))
        (((0:Int)<=x1/\x1<([r4,r6,r8,SP].length:Int))/\
        af (isSome (P9 [r4,r6,r8,SP] x1))
         (fq (P9 [r4,r6,r8,SP] x1) λZM=>
         af (!ZM)
          (Q false)
          (Qe (x1+1)/\
          Qc (x1+1)))
         (Qe (x1+1)/\
         Qc (x1+1)))
        (af (isSome r8)
         (Q true)
         (bV (α:=Unit) (λQD=>
          af (isNone r4)
           (bw r3 r7 λZG=>
           af (!ZG)
            (Q false)
            (af (isNone r6)
             (bw r5 r7 λZF=>
             af (!ZF)
              (Q false)
              (QD ()))
             (QD ())))
           (af (isNone r6)
            (bw r5 r7 λZD=>
            af (!ZD)
             (Q false)
             (QD ()))
            (QD ())))
          λ_=>
          bV (α:=Unit) (λnext3=>
           af (isNone SP)
            (ii r9 λXd U3=>
            af (isSome U3)
             (fq U3 λZK=>
             af (!ZK)
              (Q false)
              (af (isNone U3)
               (bw Xd r7 λZJ=>
               af (!ZJ)
                (Q false)
                (next3 ()))
               (next3 ())))
             (af (isNone U3)
              (bw Xd r7 λZH=>
              af (!ZH)
               (Q false)
               (next3 ()))
              (next3 ())))
            (next3 ()))
           λ_=>
           jN f λT3 ZL=>
           af (isSome ZL)
            (Q false)
            (af ((T3.length:Int) != (r7.length:Int))
             (Q false)
             (aO (σ:=Int) 0 λx2 Qd=>
              af (decide (x2<(T3.length:Int)))
               (((0:Int)<=x2/\x2<(T3.length:Int))/\
               af ((P9 T3 x2).No != 0)
                (Q false)
                (((0:Int)<=x2/\x2<(r7.length:Int))/\
                af ((P9 T3 x2).H != (P9 r7 x2))
                 (Q false)
                 (Qe (x2+1)/\
                 Qd (x2+1))))
               (Q true))))))))):=λr3 r4 h4=>by
  refine Ci g hV hc λm hm=>?_;have h4':r4=some 4\/r4=none/\r3=up m:=h4.imp id λe=>⟨e.1,e.2 m hm⟩;refine EO g hV hc ho VT (Cf g hV hc λp hp=>js g (λ_=>key r3 [] r4 (some 4) m p hm hp h4' (.inl rfl)) (λhh=>absurd hc hh)) λm7 hm7=>?_;obtain rfl:=hm7.uniq hm;exact Cf g hV hc λp hp=>js g (λ_=>key r3 (up m7) r4 none m7 p hm hp h4' (.inr ⟨rfl,rfl⟩)) (λhh=>absurd hc hh)
 exact A_ g hV hN hc (λ_=>bot [] (some 4) (.inl rfl)) λm3 hm3=>bot (up m3) none (.inr ⟨rfl,λm hm=>by rw[hm3.uniq hm]⟩)
theorem wn(ht:Qe f.A)(hl:f.N.length<=9223372036854775807)(hs:∀k,k<=f.N.length->uJ f k<=9223372036854775807)(h:Q true):mJ f Q:=by
 unfold mJ;refine⟨λy=>y=false->qw f=0/\f.Y<=8/\f.N.length<=16,?_,?_⟩;·simp_all [AQ,aB,Cw]
 intro y hy;refine aB (λ_=>AQ h) λhf=>?_
 obtain⟨hck,hV,hN⟩:=hy hf;have g:=kM.1 hck;have v0:=g.v0;obtain⟨ho,VT⟩:=DP g hV;refine EF ht (λhc=>absurd hck hc) (λ_=>om) λ_=>?_
 by_cases hc:Vu f
 ·
  exact K6 g hV hN hc ho VT h
 ·refine EG g hc (Ab g hc (DG g hV hc ho VT (Jz g hc (js g (λhh=>absurd hh hc) (λ_=>?_)))))
  exact aB (λhh=>by cases hh) (λ_=>aB (λhh=>by cases hh) (λ_=>aB (λ_=>IV (aB (λ_=>IV (aB (λ_=>IV (aB (λ_=>IV h) (λhh=>by cases hh))) (λhh=>by cases hh))) (λhh=>by cases hh))) (λhh=>by cases hh)))
end Go.Gg
