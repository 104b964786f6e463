/- The law CommonStrikes, over the formula. Conditions: the arguments' words are words. -/
import Derived.Test.YtnjgdkfhgmebjaaGreatMb
import Derived.Test.YtnjgdkfhgmebjaaGreatWa
namespace Go.Gg
theorem v9 {a:Int} {n:Nat} (h:n<62):∃s:Nat,bits .and .i64 a ((2^n-1:Nat):Int)=(s:Int)/\s<2^n:=by
  have pw:=yN h
  have pp:0<2^n:=Nat.pow_pos om
  refine⟨(BitVec.ofInt 64 a).toNat &&& (2^n-1),?_,Nat.and_lt_two_pow _ om⟩
  show IntKind.i64.wrap (((BitVec.ofInt 64 a) &&& (BitVec.ofInt 64 ((2^n-1:Nat):Int))).toNat:Int)=_
  rw[BitVec.toNat_and,gY om]
  exact tU (Nat.and_lt_two_pow _ om)
theorem u5 {f:GFormula} {s:Nat} (g:FG f) (h:s<2^f.Vars.toNat):qH f (s:Int)=0:=by
  unfold qH
  rw[if_neg (λhh=>hh (p6.2 g)),if_neg]
  have e:(2^f.Vars.toNat:Int)=((2^f.Vars.toNat:Nat):Int):=by simp
  rw[e]
  omega
theorem StI.mk' {p:List GRat} {gs:List GCauseGroup} {s o:Nat} (h:o<2^p.length) (hb:∀i:Nat,i<p.length->inS o i=stB p gs s (i:Int)):StI p s (stk p gs gs.length) o:=by
  refine⟨h,λi hi=>?_⟩
  rw[hb i hi]
  unfold stB
  rw[Bool.or_eq_true,List.any_eq_true,Int.toNat_natCast]
theorem StI.uniq {p:List GRat} {L:Int->List Int} {s o o':Nat} (h:StI p s L o) (h':StI p s L o'):o=o':=by
  refine Nat.eq_of_testBit_eq (λi=>?_)
  rcases Nat.lt_or_ge i p.length with h1 | h1
  · rw[<-gP,<-gP,Bool.eq_iff_iff,h.2 i h1,h'.2 i h1]
  · have pw:2^p.length<=2^i:=Nat.pow_le_pow_right om h1
    rw[Nat.testBit_lt_two_pow (Nat.lt_of_lt_of_le h.1 pw),Nat.testBit_lt_two_pow (Nat.lt_of_lt_of_le h'.1 pw)]
theorem kB {f:GFormula} {x:GCauses} {set:Int} {Q:Bool->Prop} (ht:rng f.Top) (hset:rng set) (lp:x.P.length<=9223372036854775807) (wp:WrL x.P) (lg:x.Groups.length<=9223372036854775807)
    (wg:∀i:Nat,i<x.Groups.length->(at' x.Groups (i:Int)).Factors.length<=9223372036854775807/\WrL (at' x.Groups (i:Int)).Factors) (h:Q true):gq f x set Q:=by
  refine⟨λy=>y=false->Shs x.P/\uu x.Groups,?_,?_⟩
  · refine lV (bO (λhh=>by cases hh) λ_=>?_)
    refine vT λb=>bO (λ_=>λhh=>by cases hh) λ_=>?_
    refine lU lp wp λr1 h1=>bO (λ_=>λhh=>by cases hh) (λe1=>?_)
    exact qC lg wg λr2 h2=>λe2=>⟨h1 (by simpa using e1),h2 (by simpa using e2)⟩
  · intro y hy
    refine bO (λ_=>lV h) λhf=>?_
    obtain⟨hp,hg⟩:=hy hf
    refine oP ht hp hg ?_
    by_cases e:l5 f x.P x.Groups=0
    · by_cases b:gg f x.P x.Groups
      · have er:qF f x.P x.Groups=(⟨0,[],0⟩,[],4):=by unfold qF;rw[if_neg (λhh=>hh e),if_pos b]
        rw[er]
        exact bO (λ_=>h) (λhh=>by cases hh)
      have er:qF f x.P x.Groups=(fm f x.P x.Groups,qG x.P x.Groups x.Groups.length,0):=by unfold qF;rw[if_neg (λhh=>hh e),if_neg b]
      rw[er]
      have ha:=Acc.of e
      have fg:=sd ha b
      have ql:=lP ha x.Groups.length (Nat.le_refl _)
      have pl:=ha.len
      have hb:=b
      unfold gg at hb
      have vq:(fm f x.P x.Groups).Vars=((qG x.P x.Groups x.Groups.length).length:Int):=rfl
      have rt:rng (fm f x.P x.Groups).Top:=by have:=fg.top;have:=fg.top0;have:=fg.n128;unfold rng;omega
      refine bO (λhh=>by cases hh) λ_=>?_
      refine io rt ?_
      show aj (Option.isSome (m_ (oQ (fm f x.P x.Groups)))) _ _
      rw[p6.2 fg]
      refine bO (λhh=>by cases hh) λ_=>?_
      refine eD (λhh=>absurd vq.symm hh) λ_=>condT (λhh=>absurd hh (by show ¬((fm f x.P x.Groups).Vars<f.Vars);omega)) λ_=>?_
      refine qr ht hp hg (eD (λhh=>absurd e hh) λ_=>?_)
      have tn:(fm f x.P x.Groups).Vars.toNat=(qG x.P x.Groups x.Groups.length).length:=by rw[vq];rfl
      have pn:f.Vars.toNat=x.P.length:=om
      have q24:2^(qG x.P x.Groups x.Groups.length).length<=2^24:=Nat.pow_le_pow_right om om
      have q1:0<2^(qG x.P x.Groups x.Groups.length).length:=Nat.pow_pos om
      have sh:=nz (n:=(qG x.P x.Groups x.Groups.length).length) om
      obtain⟨s,e1,hs⟩:=v9 (a:=set) (n:=(qG x.P x.Groups x.Groups.length).length) om
      have e0:(1*2^(Int.toNat ((qG x.P x.Groups x.Groups.length).length:Int)):Int)=((2^(qG x.P x.Groups x.Groups.length).length:Nat):Int):=by simp
      have e2:(((2^(qG x.P x.Groups x.Groups.length).length:Nat):Int)-1)=((2^(qG x.P x.Groups x.Groups.length).length-1:Nat):Int):=om
      refine⟨sh,?_⟩
      dsimp only
      rw[vq,e0,e2,e1]
      refine⟨by unfold rng;omega,eY (ky rt (λhh=>absurd (u5 fg (by rw[tn];exact hs)) hh) (λ_=>?_))⟩
      have hst:∃o:Nat,StI x.P s (stk x.P x.Groups x.Groups.length) o/\eh f x.P x.Groups (s:Int) (λy=>y=(o:Int)):=by
        refine⟨nW (λi=>stB x.P x.Groups s (i:Int)) x.P.length,?_,?_⟩
        · exact StI.mk' (lC _) (λi hi=>u7 hi)
        · refine ph ha hp hg om om (λo ho=>?_)
          exact congrArg Int.ofNat (StI.uniq ho (StI.mk' (lC _) (λi hi=>u7 hi)))
      obtain⟨o,ho,hw⟩:=hst
      refine⟨_,hw,_,_,ky ht (λhh=>absurd (u5 ha.fg (by rw[pn];exact ho.1)) hh) (λ_=>⟨rfl,rfl⟩),bO (λ_=>bO (λ_=>?_) (λhh=>by cases hh)) (λhh=>by cases hh)⟩
      rw[Int.toNat_natCast,Int.toNat_natCast,vp ha b (λi hi=>ho.st i hi),beq_self_eq_true]
      exact h
    · have er:qF f x.P x.Groups=(⟨0,[],0⟩,[],l5 f x.P x.Groups):=by unfold qF;rw[if_pos e]
      rw[er]
      exact pX (λ_=>h) (λhh=>absurd hh e)
end Go.Gg
