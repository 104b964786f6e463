/- Families of sets as lists of masks: what a list covers; the least list of a cover, sorted, is the only one. Conditions: none. -/
import Derived.Test.YtbnjpdocceckeaaGreatMa
import Derived.Test.YtbnjpdocceckeaaGreatWa
set_option linter.all false
open List (getElem_mem length_append length_cons length_map length_singleton length_take map_append map_cons mem_cons mem_singleton range take_add_one take_length)
open Int (eq_ofNat_of_zero_le le_of_eq le_refl le_trans toNat toNat_natCast)
open Nat (eq_of_testBit_eq lt_of_lt_of_le lt_or_ge lt_trans mod_lt pow_add pow_le_pow_right pow_pos pow_succ testBit_and testBit_lt_two_pow)
open Go.IntKind (wrap)
open Option (getD isSome)
open Bool (and_eq_true not_eq_true')
namespace Go.Gg
def fN(a b:Nat):Prop:=∀i,a.testBit i=true->b.testBit i=true
theorem rP(a:Nat):fN a a:=λ_ h=>h
variable{c:Nat}
theorem fN.trans{a b:Nat}(h:fN a b)(k:fN b c):fN a c:=λi hi=>k i (h i hi)
theorem rQ{a b:Nat}(h:fN a b)(k:fN b a):a=b:=by
 refine eq_of_testBit_eq λi=>?_
 cases hb:b.testBit i with
 | true=>exact k i hb
 | false=>
  cases ha:a.testBit i with
  | false=>rfl
  | true=>have:=h i ha;rw[hb]at this;cases this
theorem fB{a b:Nat}:fN a b↔a &&& b=a:=by
 constructor
 ·intro h;refine eq_of_testBit_eq λi=>?_
  rw[testBit_and];cases ha:a.testBit i with
  | false=>rfl
  | true=>rw[h i ha];rfl
 ·intro h i hi;have:=congrArg (λn=>Nat.testBit n i) h;simp only[testBit_and,hi,Bool.true_and]at this;exact this
theorem j_{a b:Nat}:fN (a ||| b) c↔fN a c/\fN b c:=by refine⟨λh=>⟨λi hi=>h i (by rw[Nat.testBit_or,hi,Bool.true_or]),λi hi=>h i (by rw[Nat.testBit_or,hi,Bool.or_true])⟩,λh i hi=>?_⟩;rw[Nat.testBit_or,Bool.or_eq_true]at hi;exact hi.elim (h.1 i) (h.2 i)
theorem nG(b:Nat):fN 0 b:=λi hi=>by simp at hi
def Rh(l:List Nat)(s:Nat):Prop:=∃t,t∈l/\fN t s
variable{l:List Nat}{s u:Nat}
theorem Rh.up(h:Rh l s)(k:fN s u):Rh l u:=h.imp λ_ ⟨h1,h2⟩=>⟨h1,h2.trans k⟩
def y_(l:List Nat):Prop:=∀a,a∈l->∀b,b∈l->fN a b->a=b
variable{m:List Nat}{t:Nat}
theorem AW(hl:y_ l)(h:∀s,Rh l s->Rh m s)(k:∀s,Rh m s->Rh l s)(ht:t∈l):t∈m:=by obtain⟨u,hu,hs⟩:=h t ⟨t,ht,rP t⟩;obtain⟨v,hv,TT⟩:=k u ⟨u,hu,rP u⟩;have:=hl v hv t ht (TT.trans hs);subst this;rw[rQ TT hs];exact hu
def dR:Nat->Nat->Nat
 | 0,_=>0
 | n+1,a=>dR n a+(a.testBit n).toNat
def qP(a b:Nat):Prop:=dR 24 a<dR 24 b\/dR 24 a=dR 24 b/\a<b
theorem Il{a:Nat}(h:qP a a):False:=by rcases h with h|h<;>omega
theorem yj{a b:Nat}(h:qP a b)(k:qP b a):False:=by rcases h with h|h<;>rcases k with k|k<;>omega
structure Can(l:List Nat):Prop where
 srt:l.Pairwise qP
 ant:y_ l
theorem Can.nodup(h:Can l):l.Nodup:=h.srt.imp λ{a b} k e=>by subst e;exact Il k
theorem Can.uniq(hl:Can l)(hm:Can m)(h:∀s,Rh l s↔Rh m s):l=m:=by have hp:l.Perm m:=(List.perm_ext_iff_of_nodup hl.nodup hm.nodup).2 λt=>⟨AW hl.ant (λs=>(h s).1) (λs=>(h s).2),AW hm.ant (λs=>(h s).2) (λs=>(h s).1)⟩;exact hp.eq_of_pairwise (λa b _ _ h1 h2=>(yj h1 h2).elim) hl.srt hm.srt
theorem BF{a b:Nat}(h:fN a b):∀n,dR n a<=dR n b
 | 0=>Nat.le_refl _
 | n+1=>by
  have ih:=BF h n;rw[dR,dR];cases ha:a.testBit n with
  | false=>simp;omega
  | true=>rw[h n ha];omega
theorem Kn{z a b:Nat}(h:fN a b)(ha:b<2^z)(hp:dR z a=dR z b):a=b:=by
 have key:∀n,dR n a=dR n b->∀i,i<n->a.testBit i=b.testBit i:=by
  intro n;induction n with
  | zero=>intro _ i hi;omega
  | succ n ih=>
   intro he i hi;have hle:=BF h n;rw[dR,dR]at he;have h1:(a.testBit n).toNat<=(b.testBit n).toNat:=by
    cases h1:a.testBit n with
    | false=>simp
    | true=>rw[h n h1];exact Nat.le_refl _
   rcases lt_or_ge i n with h2|h2;·exact ih om i h2
   ·grind
 refine rQ h λi hi=>?_;rcases lt_or_ge i z with h1|h1
 ·grind
 ·grind [testBit_lt_two_pow,lt_of_lt_of_le,pow_le_pow_right]
theorem lP:Rh (l++m) s↔Rh l s\/Rh m s:=by
 constructor
 ·rintro⟨t,ht,hs⟩;rcases List.mem_append.1 ht with h|h;·exact Or.inl ⟨t,h,hs⟩
  ·exact Or.inr ⟨t,h,hs⟩
 ·rintro(⟨t,ht,hs⟩|⟨t,ht,hs⟩);·exact⟨t,List.mem_append_left _ ht,hs⟩
  ·exact⟨t,List.mem_append_right _ ht,hs⟩
theorem se:¬Rh [] s:=λ⟨_,h,_⟩=>by cases h
theorem oW:Rh [t] s↔fN t s:=⟨λ⟨u,hu,h⟩=>by rw[mem_singleton]at hu;subst hu;exact h,λh=>⟨t,List.mem_singleton.2 rfl,h⟩⟩
theorem nI(h:∀t,t∈l↔t∈m):Rh l s↔Rh m s:=⟨λ⟨t,ht,hs⟩=>⟨t,(h t).1 ht,hs⟩,λ⟨t,ht,hs⟩=>⟨t,(h t).2 ht,hs⟩⟩
def BN(out:List Nat)(s:Nat):List Nat:=if out.any (λt=>decide (t &&& s=t))=true then out else out++[s]
def nu(l:List Nat):List Nat:=l.foldl BN []
theorem vk:nu (l++[s])=BN (nu l) s:=by grind [nu]
theorem xu:l.any (λt=>decide (t &&& s=t))=true↔Rh l s:=by rw[List.any_eq_true];exact⟨λ⟨t,ht,h⟩=>⟨t,ht,fB.2 (of_decide_eq_true h)⟩,λ⟨t,ht,h⟩=>⟨t,ht,decide_eq_true (fB.1 h)⟩⟩
theorem ko(l:List Nat):(nu l).Sublist l:=by
 suffices H:∀(n:Nat) (l:List Nat),l.length=n->(nu l).Sublist l from H _ l rfl
 intro n;induction n with
 | zero=>
  intro l h0;rw[List.length_eq_zero_iff]at h0;subst h0;exact List.Sublist.refl _
 | succ n ih=>
  intro l hl;have QI:l≠[]:=λe=>by rw[e]at hl;cases hl
  obtain⟨k,s,rfl⟩:∃k s,l=k++[s]:=⟨l.dropLast,l.getLast QI,(List.dropLast_concat_getLast QI).symm⟩;have:=ih k (by simp at hl;omega);rw[vk,BN];split;·simp_all
  ·simp_all
theorem AA{z:Nat}(l:List Nat):l.Pairwise (λa b=>dR z a<=dR z b)->(∀t,t∈l->t<2^z)->y_ (nu l)/\(nu l).Nodup/\∀s,Rh (nu l) s↔Rh l s:=by
 suffices H:∀(n:Nat) (l:List Nat),l.length=n->l.Pairwise (λa b=>dR z a<=dR z b)->(∀t,t∈l->t<2^z)->y_ (nu l)/\(nu l).Nodup/\∀s,Rh (nu l) s↔Rh l s from H _ l rfl
 intro n;induction n with
 | zero=>
  intro l h0 _ _;rw[List.length_eq_zero_iff]at h0;subst h0;exact⟨λa ha=>(List.not_mem_nil ha).elim,List.nodup_nil,λs=>Iff.rfl⟩
 | succ n ih=>
  intro l hl hs hb;have QI:l≠[]:=λe=>by rw[e]at hl;cases hl
  obtain⟨k,s,rfl⟩:∃k s,l=k++[s]:=⟨l.dropLast,l.getLast QI,(List.dropLast_concat_getLast QI).symm⟩;rw[List.pairwise_append]at hs;obtain⟨hc,hnd,hv⟩:=ih k (by simp at hl;omega) hs.1 (λt ht=>hb t (List.mem_append_left _ ht));have Z8:∀t,t∈nu k->dR z t<=dR z s:=λt ht=>hs.2.2 t ((ko k).subset ht) s (List.mem_singleton.2 rfl);rw[vk,BN];by_cases Up:Rh (nu k) s
  ·rw[if_pos (xu.2 Up)];refine⟨hc,hnd,λu=>?_⟩
   rw[lP,oW,hv u];exact⟨Or.inl,λh=>h.elim id λh=>((hv s).1 Up).up h⟩
  ·rw[if_neg (λh=>Up (xu.1 h))];refine⟨?_,?_,λu=>?_⟩
   ·intro a ha b Sq Xp;rcases List.mem_append.1 ha with h1|h1<;>rcases List.mem_append.1 Sq with h2|h2;·exact hc a h1 b h2 Xp
    ·rw[mem_singleton]at h2;subst h2;exact absurd ⟨a,h1,Xp⟩ Up
    ·grind [BF,Kn,ko]
    ·simp_all
   ·rw[List.nodup_append];refine⟨hnd,by simp,λa ha b Sq e=>?_⟩;rw[mem_singleton]at Sq;subst Sq e;exact Up ⟨a,ha,rP a⟩
   ·grind [lP]
theorem AB(hs:l.Pairwise (λa b=>qP a b\/a=b))(hb:∀t,t∈l->t<2^24):Can (nu l)/\∀s,Rh (nu l) s↔Rh l s:=by obtain⟨h1,h2,h3⟩:=AA (z:=24) l (hs.imp λ{a b} h=>by rcases h with(h|h)|h<;>first|omega|(subst h;exact Nat.le_refl _)) hb;refine⟨⟨?_,h1⟩,h3⟩;have hp:=hs.sublist (ko l);exact(hp.and h2).imp λ{a b} h=>h.1.resolve_right h.2
def rk(l m:List Nat):List Nat:=l.flatMap λx=>m.map λy=>x ||| y
theorem ux:Rh (rk l m) s↔Rh l s/\Rh m s:=by
 constructor;·rintro⟨t,ht,hs⟩;obtain⟨x,hx,ht⟩:=List.mem_flatMap.1 ht;obtain⟨y,hy,rfl⟩:=List.mem_map.1 ht;have:=j_.1 hs;exact⟨⟨x,hx,this.1⟩,⟨y,hy,this.2⟩⟩
 ·rintro⟨⟨x,hx,h1⟩,⟨y,hy,h2⟩⟩;exact⟨x ||| y,List.mem_flatMap.2 ⟨x,hx,List.mem_map.2 ⟨y,hy,rfl⟩⟩,j_.2 ⟨h1,h2⟩⟩
def H1(s:Nat):List Nat:=((range 24).filter λi=>s.testBit i).map λi=>2^i
def C7(s u:Nat):Prop:=∃i,s.testBit i=true/\u.testBit i=true
variable{i:Nat}
theorem jf:fN (2^i) u↔u.testBit i=true:=by
 constructor;·intro h;exact h i (by rw[Nat.testBit_two_pow_self])
 ·intro h j hj;rw[Nat.testBit_two_pow]at hj;have:i=j:=of_decide_eq_true hj;subst this;exact h
theorem I8(hs:s<2^24):Rh (H1 s) u↔C7 s u:=by
 constructor;·rintro⟨t,ht,h⟩;obtain⟨i,hi,rfl⟩:=List.mem_map.1 ht;rw[List.mem_filter]at hi;exact⟨i,hi.2,jf.1 h⟩
 ·rintro⟨i,h1,h2⟩;have hi:i<24:=by
   rcases lt_or_ge i 24 with h|h;·exact h
   ·rw[testBit_lt_two_pow (lt_of_lt_of_le hs (pow_le_pow_right om h))]at h1;cases h1
  exact⟨2^i,List.mem_map.2 ⟨i,List.mem_filter.2 ⟨List.mem_range.2 hi,h1⟩,rfl⟩,jf.2 h2⟩
variable{n:Nat}
theorem vF(hs:s<2^n):(2^n-1-s).testBit i=(decide (i<n) && !s.testBit i):=by grind
variable{p:Nat}
theorem yw(hp:p<2^n)(hu:u<2^n):C7 p u↔¬fN p (2^n-1-u):=by
 constructor;·rintro⟨i,h1,h2⟩ h;have:=h i h1;rw[vF hu,h2]at this;simp at this
 ·intro h;refine Classical.byContradiction λhc=>h λi hi=>?_;rw[vF hu];have hn:i<n:=by grind [testBit_lt_two_pow,lt_of_lt_of_le,pow_le_pow_right]
  rw[decide_eq_true hn,Bool.true_and];cases h2:u.testBit i with
  | false=>rfl
  | true=>exact absurd ⟨i,hi,h2⟩ hc
variable{F:Nat->Bool}
theorem K1{P:List Nat}(hP:∀p,p∈P->p<2^n)(h:∀s,s<2^n->(Rh P s↔F (2^n-1-s)=false))(hu:u<2^n) :(∀p,p∈P->C7 p u)↔F u=true:=by
 have hk:=h (2^n-1-u) om;rw[show 2^n-1-(2^n-1-u)=u by omega]at hk;constructor
 ·intro hm;cases hF:F u with
  | true=>rfl
  | false=>
   obtain⟨p,hp,hs⟩:=hk.2 hF;exact absurd hs ((yw (hP p hp) hu).1 (hm p hp))
 ·intro hF p hp;refine(yw (hP p hp) hu).2 λhs=>?_
  have:=hk.1 ⟨p,hp,hs⟩;rw[hF]at this;cases this
def nT(S:Nat):List Nat->Nat
 | []=>0
 | b::bs=>(S.testBit b).toNat+nT S bs
theorem LY(S:Nat):∀bs,nT S bs<=bs.length
 | []=>Nat.le_refl _
 | b::bs=>by have:=LY S bs;have h:(S.testBit b).toNat<=1:=Bool.toNat_le _;simp only[nT,length_cons];omega
def sB:List Nat->Nat->Nat->List Nat
 | _,0,r=>[r]
 | [],_+1,_=>[]
 | b::bs,k+1,r=>sB bs k (r ||| 2^b)++sB bs (k+1) r
theorem sf(bs:List Nat)(r:Nat):sB bs 0 r=[r]:=by cases bs<;>rfl
theorem yV:∀(bs:List Nat) (k r:Nat),bs.length<k->sB bs k r=[]
 | bs,0,_,h=>om
 | [],k+1,_,_=>rfl
 | b::bs,k+1,r,h=>by simp only[length_cons]at h;rw[sB,yV bs k _ om,yV bs (k+1) _ om];rfl
theorem BW{S:Nat}:∀(bs:List Nat) (k r:Nat),Rh (sB bs k r) S↔fN r S/\k<=nT S bs
 | bs,0,r=>by rw[sf,oW];simp
 | [],k+1,r=>by grind [sB,se,nT]
 | b::bs,k+1,r=>by
  rw[sB,lP,BW bs k,BW bs (k+1),j_,jf,nT];cases hb:S.testBit b with
  | false=>simp_all
  | true=>grind
def Dw(bs:List Nat)(r:Nat):Nat:=bs.foldl (λr b=>r ||| 2^b) r
theorem Fb{S:Nat}:∀(bs:List Nat) (r:Nat),fN (Dw bs r) S↔fN r S/\∀b,b∈bs->S.testBit b=true
 | [],r=>by simp[Dw]
 | b::bs,r=>by show fN (Dw bs (r ||| 2^b)) S↔_;rw[Fb bs,j_,jf];simp only[mem_cons,forall_eq_or_imp];exact and_assoc
variable{S:Nat}
theorem K5(bs:List Nat)(r:Nat):Rh (bs.map λb=>r ||| 2^b) S↔fN r S/\∃b,b∈bs/\S.testBit b=true:=by
 constructor;·rintro⟨t,ht,hs⟩;obtain⟨b,hb,rfl⟩:=List.mem_map.1 ht;have:=j_.1 hs;exact⟨this.1,b,hb,jf.1 this.2⟩
 ·rintro⟨h,b,hb,hs⟩;exact⟨_,List.mem_map.2 ⟨b,hb,rfl⟩,j_.2 ⟨h,jf.2 hs⟩⟩
theorem I9{f:Nat->List Nat}:Rh (l.flatMap f) S↔∃r,r∈l/\Rh (f r) S:=by
 constructor;·rintro⟨t,ht,hs⟩;obtain⟨r,hr,ht⟩:=List.mem_flatMap.1 ht;exact⟨r,hr,t,ht,hs⟩
 ·rintro⟨r,hr,t,ht,hs⟩;exact⟨t,List.mem_flatMap.2 ⟨r,hr,ht⟩,hs⟩
def Tr(f:GFormula)(a:Int):Nat:=if a<f.Y then a.toNat else 24+(a-f.Y).toNat
def DF(f:GFormula)(s S:Nat):Prop:=∀a:Int,0<=a->a<f.Y+f.N.length->S.testBit (Tr f a)=P9 (cK f s f.N.length) a
variable{f:GFormula}
theorem IY(g:FG f)(s:Nat):∃S,DF f s S:=by
 have v24:=g.v24;have v0:=g.v0;refine⟨gI (λb=>if b<24 then P9 (cK f s f.N.length) (b:Int)else P9 (cK f s f.N.length) (f.Y+((b-24:Nat):Int))) (24+f.N.length),λa h0 h1=>?_⟩;rw[QS,Tr];split;·grind
 ·grind
variable{α:Type}
theorem uI[Inhabited α]{l:List α}(h:i<l.length):P9 l (i:Int)=l[i]:=by grind [P9]
theorem FB{S b:Nat}:∀bs,nT S (bs++[b])=nT S bs+(S.testBit b).toNat
 | []=>by simp[nT]
 | c::bs=>by have:=FB (S:=S) (b:=b) bs;simp only[List.cons_append,nT];omega
theorem IJ{S:Nat}:∀bs,nT S bs=bs.length↔∀b,b∈bs->S.testBit b=true
 | []=>by simp[nT]
 | b::bs=>by
  have ih:=IJ (S:=S) bs;have hle:=LY S bs;simp only[nT,length_cons,mem_cons,forall_eq_or_imp];rw[<-ih];cases S.testBit b with
  | true=>simp;omega
  | false=>simp;omega
theorem II{S:Nat}:∀bs,0<nT S bs↔∃b,b∈bs/\S.testBit b=true
 | []=>by simp[nT]
 | b::bs=>by
  have ih:=II (S:=S) bs;simp only[nT,mem_cons];cases hb:S.testBit b with
  | true=>simp only[Bool.toNat_true];exact⟨λ_=>⟨b,Or.inl rfl,hb⟩,λ_=>om⟩
  | false=>simp_all
theorem IH{f:GFormula}{s S t:Nat}(g:FG f)(hS:DF f s S)(ht:t<f.N.length):∀j,j<=(P9 f.N (t:Int)).Z.length->nT S (((P9 f.N (t:Int)).Z.take j).map (Tr f))=TM (P9 f.N (t:Int)) (cK f s t) j
 | 0,_=>by simp[nT,TM]
 | j+1,h=>by
  have ih:=IH g hS ht j om;have N:=dq (g.node t ht);have ha:=N.arg j om;have e:(P9 f.N (t:Int)).Z.take (j+1)=(P9 f.N (t:Int)).Z.take j++[P9 (P9 f.N (t:Int)).Z (j:Int)]:=by grind [take_add_one,P9]
  rw[e,map_append,List.map_singleton,FB,ih,TM,hS _ ha.1 om,iv (m:=t) ha.1 (by have:=g.v0;omega) f.N.length om];cases P9 (cK f s t) (P9 (P9 f.N (t:Int)).Z (j:Int))<;>rfl
def BT(f:GFormula)(t r:Nat):List Nat:=
 let x:=P9 f.N (t:Int);let bs:=x.Z.map (Tr f)
 if x.U=0 then (if x.K=1 then [r]else [])else if x.U=2 then [Dw bs r]else if x.U=3 then bs.map (λb=>r ||| 2^b)else sB bs x.K.toNat r
theorem I'{r:Nat}(g:FG f)(hS:DF f s S)(ht:t<f.N.length)(k1:(P9 f.N (t:Int)).U≠1)(k5:(P9 f.N (t:Int)).U≠5) :Rh (BT f t r) S↔fN r S/\S.testBit (24+t)=true:=by
 have v0:=g.v0;have hb:S.testBit (24+t)=kY (P9 f.N (t:Int)) (cK f s t):=by have:=hS (f.Y+t) om om;rw[Tr,if_neg om,show(f.Y+(t:Int)-f.Y).toNat=t by omega,nE v0 ht]at this;exact this
 have hn:=IH g hS ht _ (Nat.le_refl _);rw[take_length]at hn;rw[hb,kY,gM,<-hn];have N:=dq (g.node t ht);have n0:=N.k0;have n5:=N.k5;unfold BT;dsimp only;by_cases h0:(P9 f.N (t:Int)).U=0;·grind [oW,se]
 rw[if_neg h0,if_neg h0,if_neg k1];by_cases h2:(P9 f.N (t:Int)).U=2;·grind [oW,Fb,IJ]
 rw[if_neg h2,if_neg h2];by_cases h3:(P9 f.N (t:Int)).U=3;·grind [K5,II]
 rw[if_neg h3,if_neg h3,if_pos om,BW];simp only[decide_eq_true_eq];constructor;·simp_all
 ·simp_all
structure Qw(n:Nat)(F:Nat->Bool)(l:List Nat):Prop where
 can:Can l
 lt:∀t,t∈l->t<2^n
 cv:∀s,s<2^n->(Rh l s↔F s=true)
theorem FX(h:∀t,t∈l->t<2^n):Rh l s↔Rh l (s%2^n):=by
 have key:∀t,t∈l->(fN t s↔fN t (s%2^n)):=λt ht=>by
  constructor
  ·intro hs i hi;rw[Nat.testBit_mod_two_pow,hs i hi,Bool.and_true];rcases lt_or_ge i n with h1|h1;·exact decide_eq_true h1
   ·grind [testBit_lt_two_pow,lt_of_lt_of_le,pow_le_pow_right]
  ·intro hs i hi;have:=hs i hi;rw[Nat.testBit_mod_two_pow,and_eq_true]at this;exact this.2
 exact⟨λ⟨t,ht,hs⟩=>⟨t,ht,(key t ht).1 hs⟩,λ⟨t,ht,hs⟩=>⟨t,ht,(key t ht).2 hs⟩⟩
theorem Qw.uniq{n:Nat}{F:Nat->Bool}{l m:List Nat}(hl:Qw n F l)(hm:Qw n F m):l=m:=by
 refine hl.can.uniq hm.can λs=>?_
 have hs:s%2^n<2^n:=mod_lt _ (pow_pos (by decide));rw[FX hl.lt,FX hm.lt,hl.cv _ hs,hm.cv _ hs]
variable{G:Nat->Bool}
theorem GT{k:List Nat}(hl:Qw n F l)(hm:Qw n G m)(hk:Can k)(QH:∀t,t∈k->t<2^n)(hc:∀s,Rh k s↔Rh (l++m) s):Qw n (λs=>F s||G s) k:=⟨hk,QH,λs hs=>by rw[hc,lP,hl.cv s hs,hm.cv s hs,Bool.or_eq_true]⟩
theorem AJ{k:List Nat}(hl:Qw n F l)(hm:Qw n G m)(hk:Can k)(QH:∀t,t∈k->t<2^n)(hc:∀s,Rh k s↔Rh (rk l m) s):Qw n (λs=>F s&&G s) k:=⟨hk,QH,λs hs=>by rw[hc,ux,hl.cv s hs,hm.cv s hs,and_eq_true]⟩
theorem Qw.congr(h:Qw n F l)(e:∀s,s<2^n->F s=G s):Qw n G l:=⟨h.can,h.lt,λs hs=>by rw[<-e s hs];exact h.cv s hs⟩
theorem uw:Qw n (λ_=>false) []:=⟨⟨List.Pairwise.nil,λa ha=>(List.not_mem_nil ha).elim⟩,λt ht=>(List.not_mem_nil ht).elim,λs _=>by simp[se]⟩
theorem F2:Can [t]:=⟨List.pairwise_singleton _ _,λa ha b hb _=>by rw[mem_singleton]at ha hb;rw[ha,hb]⟩
theorem pX:Qw n (λ_=>true) [0]:=⟨F2,λt ht=>by rw[mem_singleton]at ht;subst ht;exact pow_pos (by decide),λs _=>by rw[oW];exact⟨λ_=>rfl,λ_=>nG s⟩⟩
theorem tv(hi:i<n):Qw n (λs=>s.testBit i) [2^i]:=⟨F2,λt ht=>by rw[mem_singleton]at ht;subst ht;exact Nat.pow_lt_pow_right (by decide) hi,λs _=>by rw[oW,jf]⟩
theorem D9{a b:Nat}(ha:a<2^n)(hb:b<2^n):a ||| b<2^n:=Nat.or_lt_two_pow ha hb
theorem xc(hl:∀t,t∈l->t<2^n)(hm:∀t,t∈m->t<2^n):∀t,t∈rk l m->t<2^n:=λt ht=>by obtain⟨x,hx,ht⟩:=List.mem_flatMap.1 ht;obtain⟨y,hy,rfl⟩:=List.mem_map.1 ht;exact D9 (hl x hx) (hm y hy)
def nF(s:Nat):List (Nat->Bool)->Nat
 | []=>0
 | F::l=>(F s).toNat+nF s l
variable{j:Nat}
theorem KF{l:List (Nat->Bool)}:decide (j+1<=nF s (F::l))=((F s&&decide (j<=nF s l))||decide (j+1<=nF s l)):=by
 by_cases h:F s=true;·grind [nF]
 ·grind [nF]
def d3(c j:Nat):Nat:=c/3^j%3
theorem uu(c j:Nat):d3 c j<3:=mod_lt _ (by decide)
theorem p3(j:Nat):0<3^j:=pow_pos (by decide)
variable{x:Nat}
theorem ut{a b:Nat}(ha:a<3^j)(hx:x<3):d3 (a+3^j*(x+3*b)) i=if i<j then d3 a i else if i=j then x else d3 b (i-j-1):=by
 unfold d3;split
 ·rename_i h;have e:3^j=3^i*(3*3^(j-i-1)):=by rw[<-Nat.pow_succ',<-pow_add];congr 1;omega
  rw[e,Nat.mul_assoc,Nat.add_mul_div_left _ _ (p3 i),Nat.mul_assoc,Nat.add_mul_mod_self_left]
 ·rename_i h;have e:3^i=3^j*3^(i-j):=by rw[<-pow_add];congr 1;omega
  rw[e,<-Nat.div_div_eq_div_mul,Nat.add_mul_div_left _ _ (p3 j),Nat.div_eq_of_lt ha,Nat.zero_add];split;·simp_all
  ·rename_i h2;have e2:3^(i-j)=3*3^(i-j-1):=by rw[<-Nat.pow_succ'];congr 1;omega
   rw[e2,<-Nat.div_div_eq_div_mul,Nat.add_mul_div_left _ _ (by decide),Nat.div_eq_of_lt hx,Nat.zero_add]
theorem rG(c j:Nat):c=c%3^j+3^j*(d3 c j+3*(c/3^(j+1))):=by grind [Nat.mod_add_div,Nat.div_div_eq_div_mul,d3]
def pH(c j x:Nat):Nat:=c%3^j+3^j*(x+3*(c/3^(j+1)))
theorem qi(hx:x<3):d3 (pH c j x) i=if i=j then x else d3 c i:=by
 have hc:=rG c j;have h1:=ut (a:=c%3^j) (x:=x) (b:=c/3^(j+1)) (i:=i) (mod_lt _ (p3 j)) hx;have h2:=ut (a:=c%3^j) (x:=d3 c j) (b:=c/3^(j+1)) (i:=i) (mod_lt _ (p3 j)) (uu c j);rw[<-hc]at h2;rw[pH,h1,h2];split;·grind
 ·split<;>rfl
theorem Kl(hx:x<3)(hc:c<3^n)(hj:j<n):pH c j x<3^n:=by
 have h1:c/3^(j+1)<3^(n-(j+1)):=by rw[Nat.div_lt_iff_lt_mul (p3 _),<-pow_add,show n-(j+1)+(j+1)=n by omega];exact hc
 have h2:3^n=3^j*(3*3^(n-(j+1))):=by rw[<-Nat.pow_succ',<-pow_add];congr 1;omega
 have h3:=mod_lt c (p3 j);have h4:3^j*(x+3*(c/3^(j+1))+1)<=3^j*(3*3^(n-(j+1))):=Nat.mul_le_mul_left _ om;rw[Nat.mul_add,Nat.mul_one]at h4;unfold pH;omega
theorem CQ{e:Nat}(h:d3 c j=2)(he:e<=2):c-e*3^j=pH c j (2-e):=by have hc:=rG c j;rw[h,show 2+3*(c/3^(j+1))=(2-e+3*(c/3^(j+1)))+e by omega,Nat.mul_add,Nat.mul_comm (3^j) e]at hc;unfold pH;omega
theorem Ig:c+(2-d3 c j)*3^j=pH c j 2:=by
 have hc:=rG c j;have hd:=uu c j;have h1:3^j*(2+3*(c/3^(j+1)))=3^j*(d3 c j+3*(c/3^(j+1)))+(2-d3 c j)*3^j:=by rw[Nat.mul_comm (2-d3 c j),<-Nat.mul_add];congr 1;omega
 unfold pH;omega
def inC(n c r:Nat):Prop:=∀j,j<n->(d3 c j=0->r.testBit j=false)/\(d3 c j=1->r.testBit j=true)
def wI(T:Nat->Bool)(n c:Nat):Prop:=∀r,r<2^n->inC n c r->T r=true
variable{T:Nat->Bool}
theorem GN(hj:j<n)(hf:d3 c j=2):wI T n c↔wI T n (pH c j 1)/\wI T n (pH c j 0):=by
 constructor
 ·intro h;refine⟨λr hr hc=>h r hr λi hi=>?_,λr hr hc=>h r hr λi hi=>?_⟩
  ·have:=hc i hi;rw[qi (by decide)]at this;by_cases he:i=j;·simp_all
   ·simp_all
  ·have:=hc i hi;rw[qi (by decide)]at this;by_cases he:i=j;·simp_all
   ·simp_all
 ·rintro⟨h1,h2⟩ r hr hc;cases hb:r.testBit j with
  | true=>
   refine h1 r hr λi hi=>?_;rw[qi (by decide)];by_cases he:i=j;·simp_all
   ·rw[if_neg he];exact hc i hi
  | false=>
   refine h2 r hr λi hi=>?_;rw[qi (by decide)];by_cases he:i=j;·simp_all
   ·rw[if_neg he];exact hc i hi
def yr(n c:Nat):Nat:=gI (λj=>d3 c j==1) n
theorem nJ:(yr n c).testBit j=(decide (j<n)&&(d3 c j==1)):=QS n j
theorem sE:yr n c<2^n:=Ry n
theorem Ly:inC n c (yr n c):=λj hj=>by grind [nJ]
theorem GM(h:∀j,j<n->d3 c j≠2):wI T n c↔T (yr n c)=true:=by
 constructor;·intro hi;exact hi _ sE Ly
 ·intro ht r hr hc;have:r=yr n c:=by
   refine eq_of_testBit_eq λj=>?_
   rw[nJ];rcases lt_or_ge j n with hj|hj
   ·rw[decide_eq_true hj,Bool.true_and];have h1:=hc j hj;have h2:=h j hj;have h3:=uu c j;rcases (by omega:d3 c j=0\/d3 c j=1)with h4|h4;·rw[h1.1 h4,h4];rfl
    ·rw[h1.2 h4,h4];rfl
   ·grind [testBit_lt_two_pow,lt_of_lt_of_le,pow_le_pow_right]
  rw[this];exact ht
def Yz(T:Nat->Bool)(n c:Nat):Prop:=wI T n c/\∀j,j<n->d3 c j≠2->¬wI T n (pH c j 2)
def yq(T:Nat->Bool)(n:Nat):Prop:=∀r u,r<2^n->u<2^n->fN r u->T r=true->T u=true
theorem qm{r:Nat}(h:r.testBit j=true):(r ^^^ 2^j).testBit i=(decide (i≠j)&&r.testBit i):=by grind
theorem Eb{r:Nat}(h:r.testBit j=true)(hr:r<2^n):r ^^^ 2^j<2^n:=by refine Nat.lt_pow_two_of_testBit _ λi hi=>?_;rw[qm h,testBit_lt_two_pow (lt_of_lt_of_le hr (pow_le_pow_right (by decide) hi)),Bool.and_false]
theorem xj{r:Nat}(h:r.testBit j=true):fN (r ^^^ 2^j) r:=λi hi=>by grind
theorem xd(hm:yq T n)(h:Yz T n c):∀j,j<n->d3 c j≠0:=by
 intro j hj h0;refine h.2 j hj om λr hr hc=>?_;have T7:∀i,i<n->i≠j->(d3 c i=0->r.testBit i=false)/\(d3 c i=1->r.testBit i=true):=λi hi he=>by have:=hc i hi;rw[qi (by decide),if_neg he]at this;exact this
 cases hb:r.testBit j with
 | false=>
  refine h.1 r hr λi hi=>?_;by_cases he:i=j;·simp_all
  ·exact T7 i hi he
 | true=>
  refine hm (r ^^^ 2^j) r (Eb hb hr) hr (xj hb) (h.1 _ (Eb hb hr) λi hi=>?_);rw[qm hb];by_cases he:i=j;·simp_all
  ·simp_all
theorem yI(hm:yq T n)(h:∀j,j<n->d3 c j≠0):wI T n c↔T (yr n c)=true:=by
 constructor;·intro hi;exact hi _ sE Ly
 ·intro ht r hr hc;refine hm _ r sE hr (λi hi=>?_) ht;rw[nJ,and_eq_true]at hi;exact(hc i (of_decide_eq_true hi.1)).2 (by simpa using hi.2)
def GG(T:Nat->Bool)(n r:Nat):Prop:=r<2^n/\T r=true/\∀j,r.testBit j=true->T (r ^^^ 2^j)=false
theorem Fp(hm:yq T n):Yz T n c↔(∀j,j<n->d3 c j≠0)/\GG T n (yr n c):=by
 have off:∀j,j<n->d3 c j=1->(∀j,j<n->d3 c j≠0)->(wI T n (pH c j 2)↔T (yr n c ^^^ 2^j)=true):=by
  intro j hj h1 hp;have hb:(yr n c).testBit j=true:=by grind [nJ]
  have e:yr n (pH c j 2)=yr n c ^^^ 2^j:=by
   refine eq_of_testBit_eq λi=>?_
   rw[qm hb,nJ,nJ,qi (by decide)];by_cases he:i=j;·subst he;simp
   ·simp_all
  rw[yI hm (λi hi=>by rw[qi (by decide)];split<;>first|decide|exact hp i hi),e]
 constructor
 ·intro h;have hp:=xd hm h;refine⟨hp,sE,(yI hm hp).1 h.1,λj hj=>?_⟩;rw[nJ,and_eq_true]at hj;have h1:d3 c j=1:=by simpa using hj.2
  have hjn:j<n:=of_decide_eq_true hj.1;cases ht:T (yr n c ^^^ 2^j)with
  | false=>rfl
  | true=>exact absurd ((off j hjn h1 hp).2 ht) (h.2 j hjn om)
 ·rintro⟨hp,_,ht,ag6⟩;refine⟨(yI hm hp).2 ht,λj hj h2 hi=>?_⟩;have h3:=uu c j;have h4:=hp j hj;have h1:d3 c j=1:=om;have:=(off j hj h1 hp).1 hi;rw[ag6 j (by rw[nJ,decide_eq_true hj,h1];rfl)]at this;cases this
def YM(r:Nat):Nat->Nat
 | 0=>0
 | n+1=>YM r n+3^n*(if r.testBit n then 1 else 2)
theorem Ex(r:Nat):∀n,YM r n<3^n
 | 0=>by simp[YM]
 | n+1=>by have:=Ex r n;rw[YM,pow_succ];split<;>omega
theorem Ey(r:Nat):∀n j,j<n->d3 (YM r n) j=if r.testBit j then 1 else 2
 | 0,j,h=>om
 | n+1,j,h=>by
  have h1:=ut (a:=YM r n) (x:=if r.testBit n then 1 else 2) (b:=0) (j:=n) (i:=j) (Ex r n) (by split<;>decide);rw[Nat.mul_zero,Nat.add_zero]at h1;rw[YM,h1];split;·rename_i h2;exact Ey r n j h2
  ·grind
theorem Lz{r:Nat}(hr:r<2^n):yr n (YM r n)=r:=by
 refine eq_of_testBit_eq λj=>?_
 rw[nJ];rcases lt_or_ge j n with hj|hj;·grind [Ey]
 ·grind [testBit_lt_two_pow,lt_of_lt_of_le,pow_le_pow_right]
theorem Nr{r:Nat}(hm:yq T n)(h:GG T n r):Yz T n (YM r n):=(Fp hm).2 ⟨λj hj=>by rw[Ey r n j hj];split<;>decide,by rw[Lz h.1];exact h⟩
theorem IL(hm:yq T n)(hs:s<2^n):T s=true↔∃r,GG T n r/\fN r s:=by
 constructor
 ·induction s using Nat.strongRecOn with
  | _ s ih=>
   intro ht;by_cases hc:∃j,s.testBit j=true/\T (s ^^^ 2^j)=true;·grind [fB,xj,Nat.and_le_right]
   ·refine⟨s,⟨hs,ht,λj hj=>?_⟩,rP s⟩;cases h1:T (s ^^^ 2^j)with
    | false=>rfl
    | true=>exact absurd ⟨j,hj,h1⟩ hc
 ·rintro⟨r,⟨h1,h2,_⟩,h3⟩;exact hm r s h1 hs h3 h2
theorem GF(hm:yq T n){a b:Nat}(ha:GG T n a)(hb:GG T n b)(h:fN a b):a=b:=by
 refine rQ h λj hj=>?_;cases h1:a.testBit j with
 | true=>rfl
 | false=>
  have h2:=hb.2.2 j hj;rw[hm a _ ha.1 (Eb hj hb.1) (λi hi=>by rw[qm hj,h i hi,Bool.and_true];refine decide_eq_true λe=>?_;subst e;rw[h1]at hi;cases hi) ha.2.1]at h2;cases h2
def up(l:List Nat):List Int:=l.map λt:Nat=>(t:Int)
theorem cC:(up l).length=l.length:=by simp[up]
theorem qA(h:i<l.length):P9 (up l) (i:Int)=((l[i]:Nat):Int):=by grind [uI,up]
theorem Bj:up (l++m)=up l++up m:=by simp[up]
theorem Bh{x:Int}:x∈up l↔∃t,t∈l/\(t:Int)=x:=by simp[up]
theorem Mt:(up l).map toNat=l:=by simp[up,Function.comp_def]
theorem NT{l:List Int}(h:∀x∈l,0<=x):l=up (l.map toNat):=by
 rw[up,List.map_map];conv=>lhs;rw[<-List.map_id l]
 exact List.map_congr_left λx hx=>by grind
def ocE(x:Int):Int:=
 let x1:=wrap .u64 ((bits .and .u64 (x/2^(toNat 1)) 6148914691236517205)+(bits .and .u64 x 6148914691236517205));let x2:=wrap .u64 ((bits .and .u64 (x1/2^(toNat 2)) 3689348814741910323)+(bits .and .u64 x1 3689348814741910323));let x3:=bits .and .u64 (wrap .u64 ((x2/2^(toNat 4))+x2)) 1085102592571150095;let x4:=wrap .u64 (x3+(x3/2^(toNat 8)));let x5:=wrap .u64 (x4+(x4/2^(toNat 16)));let x6:=wrap .u64 (x5+(x5/2^(toNat 32)))
 bits .and .i64 (wrap .i64 x6) 127
theorem MV{x:Int}{Q:Int->Prop}(h:Q (ocE x)):dt x Q:=λ_ h1 _ h2 _ h3 _ h4 _ h5 _ h6=>by subst h1 h2 h3 h4 h5 h6;exact h
theorem Py:∀x:Nat,x<256->ocE (x:Int)=(dR 24 x:Int):=by decide +kernel
theorem Oi:∀x:Nat,x<256->oE (x:Int)=(dR 24 x:Int):=by decide +kernel
theorem FY(hx:x<256){Q:Int->Prop}(h:Q (dR 24 x:Int)):fM (wrap .u64 (x:Int)) Q:=by rw[Qj om om];refine MV ?_;rw[Py x hx];exact h
theorem O2(hx:x<256):bits .and .i64 (x:Int) 16777215=(x:Int):=by rw[show(16777215:Int)=((2^24-1:Nat):Int)by decide,Dr om (by decide)];congr 1;rw[Nat.and_two_pow_sub_one_eq_mod];exact Nat.mod_eq_of_lt om
theorem Mf(hx:x<256){Q:Int->Prop}(h:Q (x:Int)):nP (x:Int) Q:=by grind [nP,O2]
theorem Lu(hx:x<256){Q:Int->Prop}(h:Q (dR 24 x:Int)):qg (x:Int) Q:=Mf hx (FY hx h)
theorem F0{a b:Nat}(ha:a<256)(hb:b<256):rJ a b<0↔qP a b:=by grind [rJ,Ub,oI,qP,Oi]
theorem xH(hb:∀t∈l,t<256){y:List Int}(hp:y.Perm (up l))(hs:y.Pairwise (λa b=>¬rJ b a<0)):∃m:List Nat,y=up m/\m.Perm l/\m.Pairwise (λa b=>qP a b\/a=b):=by
 have hy:∀x∈y,∃t,t∈l/\(t:Int)=x:=λx hx=>Bh.1 (hp.mem_iff.1 hx);refine⟨y.map toNat,NT λx hx=>by obtain⟨t,_,rfl⟩:=hy x hx;omega,?_,?_⟩;·grind [Mt]
 ·rw[List.pairwise_map];refine hs.imp_of_mem λ{a b} h1 h2 h=>?_;obtain⟨u,hu,rfl⟩:=hy a h1;obtain⟨v,hv,rfl⟩:=hy b h2;rw[F0 (hb v hv) (hb u hu)]at h;simp only[toNat_natCast];unfold qP at h ⊢;omega
theorem Ff{p:List α->Prop}(nil:p [])(snoc:∀l x,p l->p (l++[x]))(l:List α):p l:=by
 have h:∀m:List α,p m.reverse:=λm=>by
  induction m with
  | nil=>exact nil
  | cons x m ih=>rw[List.reverse_cons];exact snoc _ _ ih
 have:=h l.reverse;rwa[List.reverse_reverse]at this
def EA(out:List Nat)(x:Nat):List Nat:=if out.getLast? = some x then out else out++[x]
def comp(l:List Nat):List Nat:=l.foldl EA []
theorem pY:comp (l++[x])=EA (comp l) x:=by grind [comp]
theorem AN(l:List Nat):(comp l).getLast? = l.getLast?:=by
 induction l using Ff with
 | nil=>rfl
 | snoc l x ih=>grind [pY,EA]
theorem Dm(l:List Nat):∀t,t∈comp l↔t∈l:=by
 induction l using Ff with
 | nil=>intro t;rfl
 | snoc l x ih=>grind [pY,EA]
theorem I_(l:List Nat):l.Pairwise (λa b=>qP a b\/a=b)->(comp l).Pairwise qP:=by
 induction l using Ff with
 | nil=>intro _;exact .nil
 | snoc l x ih=>
  intro h;rw[List.pairwise_append]at h;obtain⟨h1,_,h3⟩:=h;rw[pY,EA];split;·exact ih h1
  ·rename_i hn;rw[List.pairwise_append];refine⟨ih h1,List.pairwise_singleton _ _,λa ha b hb=>?_⟩;rw[mem_singleton]at hb;subst hb;have U9:=(Dm l a).1 ha;rcases h3 a U9 b (List.mem_singleton.2 rfl)with h|h;·exact h
   ·subst h;exfalso;rw[AN]at hn;obtain⟨i,hi,he⟩:=List.getElem_of_mem U9;have R9:l.getLast? = some (l[l.length-1]'om):=by grind
    rcases lt_or_ge i (l.length-1)with QH|TV;·grind [List.pairwise_iff_getElem,yj]
    ·grind
theorem Dn(l:List Nat):(comp l).length<=l.length:=by
 induction l using Ff with
 | nil=>exact Nat.le_refl _
 | snoc l x ih=>grind [pY,EA]
variable{k:Nat}
theorem fS(h:k<l.length):l.take (k+1)=l.take k++[l[k]]:=by simp_all
theorem AM(h:k+1<l.length):comp (l.take (k+2))=if l[k+1]=l[k]then comp (l.take (k+1))else comp (l.take (k+1))++[l[k+1]]:=by grind [fS,pY,EA,AN,List.getLast?_append,List.getLast?_singleton,Option.some.injEq]
theorem Hh(hl:l.length<=1099511627776){Q:List Int->Prop}(h:Q (up (comp l))):eI (up l) Q:=by
 have hn:(up l).length=l.length:=cC;refine Qb (λhc=>?_) (λhc=>?_)
 ·rw[hn]at hc;have:comp l=l:=by
   rcases l with _|⟨a,_|⟨b,r⟩⟩;·rfl
   ·rfl
   ·grind
  rwa[this]at h
 rw[hn]at hc;refine bu (n:=l.length-1) (λi y=>y=((i+1:Nat):Int)/\comp (l.take (i+1))=l.take (i+1)) (λy=>y) 1 (λi y hy=>by rw[hy.1];omega) ⟨rfl,?_⟩ ?_ ?_;·rw[fS (by omega:0<l.length),List.take_zero];rfl
 ·rintro i _ next hi ⟨rfl,hI⟩ Q6
  refine Qb (λ_=>?_) (λhc=>absurd (show(((i+1:Nat):Int))<(up l).length by rw[hn];omega) hc);refine⟨by rw[hn];omega,Qo,by rw[hn];omega,?_⟩;rw[show(((i+1:Nat):Int)-1)=(i:Int)by omega,qA (by omega:i+1<l.length),qA (by omega:i<l.length)];have hcn:=AM (l:=l) (k:=i) om;refine bk (λhe=>?_) (λhe=>?_)
  ·have he':l[i+1]=l[i]:=om;rw[if_pos he',hI]at hcn;refine⟨by rw[hn];omega,?_⟩
   refine bu (n:=l.length-(i+1)-1) (λj y=>y.2.1=((j+1:Nat):Int)/\y.2.2.length=l.length/\y.1=((comp (l.take (i+1+j+1))).length:Int)/\(comp (l.take (i+1+j+1))).length<=i+1+j
     /\(∀t (ht:t<(comp (l.take (i+1+j+1))).length),P9 y.2.2 (t:Int)=(((comp (l.take (i+1+j+1)))[t]:Nat):Int))/\∀t (ht:t<l.length),i+1+j<=t->P9 y.2.2 (t:Int)=((l[t]:Nat):Int)) (λy=>y.2.1) 1 (λj y hy=>by rw[hy.1];omega) ?_ ?_ ?_
   ·grind [qA]
   ·rintro j ⟨a,b,s2⟩ Qd hj ⟨hb,hs,ha,U9,hA,hT⟩ TL;dsimp only at hb hs ha U9 hA hT;subst hb ha;have e0:((0:Int)+((toNat ((i+1:Nat):Int):Nat):Int))=((i+1:Nat):Int):=om;have e1:((i+1:Nat):Int)+((j+1:Nat):Int)=((i+1+j+1:Nat):Int):=om;have e2:((i+1:Nat):Int)+(((j+1:Nat):Int)-1)=((i+1+j:Nat):Int):=om;have cn:=AM (l:=l) (k:=i+1+j) om;refine Qb (λ_=>?_) (λhc=>absurd (by rw[hn];omega) hc);rw[e0,e1,e2,hT (i+1+j+1) om om,hT (i+1+j) om (Nat.le_refl _)];refine⟨by rw[hn];omega,om,Qo,by rw[hn];omega,om,iY (λQI=>?_) (λheq=>?_)⟩
    ·rw[if_neg (λhc=>QI (by rw[hc]))]at cn;refine⟨by rw[hn];omega,om,om,Qo,Qo,TL _ ⟨by (try dsimp only);omega,by (try dsimp only);rw[ck];exact hs,?_,?_,λt ht=>?_,λt ht hle=>?_⟩⟩;·grind
     ·grind
     ·try dsimp only
      rw[dO om];simp only[show i+1+(j+1)+1=i+1+j+2 by omega,cn]at ht ⊢;rw[length_append,length_singleton]at ht;by_cases e:t=(comp (l.take (i+1+j+1))).length;·simp_all
      ·rw[if_neg e,hA t om,List.getElem_append_left om]
     ·grind [dO]
    ·grind [Qe]
   ·rintro⟨a,b,s2⟩ Qd ⟨hb,hs,ha,U9,hA,_⟩;dsimp only at hb hs ha U9 hA;subst hb ha;have e3:i+1+(l.length-(i+1)-1)+1=l.length:=om;simp only[e3,take_length]at U9 hA ⊢;have UE:=Dn l;refine Qb (λhc=>absurd hc (by rw[hn];omega)) (λ_=>⟨om,om,?_⟩)
    rw[show List.take (toNat ((comp l).length:Int)) (List.take (0+toNat ((comp l).length:Int)) s2)=up (comp l)from ?_];·exact h
    ·rw[toNat_natCast,Nat.zero_add,List.take_take,Nat.min_self];refine List.ext_getElem (by rw[length_take,cC];omega) (λt h1 h2=>?_);rw[cC]at h2;have:=hA t h2;rw[uI om]at this;rw[List.getElem_take,this];simp[up]
  ·grind [Qe,fS]
 ·grind [Qb]
theorem F_{l:List Int}(hl:l.length<=1099511627776){Q:List Int->Prop}(h:Q l):bY l Q:=λb hb=>aB (λhc=>by rw[hb hc]at h;exact h) (λ_=>⟨by simp;omega,by simpa using h⟩)
theorem HU(hl:l.length<=1099511627776)(hb:∀t∈l,t<256){Q:List Int->Prop}(h:∀m:List Nat,m.Pairwise qP->(∀t,t∈m↔t∈l)->m.length<=l.length->Q (up m)):mU (up l) Q:=by
 refine F_ (by rw[cC];exact hl) ⟨λv hv=>?_,by rw[cC];omega,λy hp hs=>?_⟩;·obtain⟨t,ht,rfl⟩:=Bh.1 hv;have:=hb t ht;exact⟨om,om⟩
 ·obtain⟨m,rfl,hm,TT⟩:=xH hb hp hs;refine⟨hp.length_eq,Hh (by rw[hm.length_eq];exact hl) (h _ (I_ m TT) (λt=>by rw[Dm,hm.mem_iff]) (by rw[<-hm.length_eq];exact Dn m))⟩
theorem anN{a b:Nat}(ha:a<2^62)(hb:b<2^62):a &&& (2^64-1-b)=gI (λv=>a.testBit v && !b.testBit v) 62:=by
 refine eq_of_testBit_eq λi=>?_
 rw[testBit_and,QS,show 2^64-1-b=2^64-(b+1)by omega,Nat.testBit_two_pow_sub_succ (lt_trans hb (by decide))];by_cases hi:i<62;·grind
 ·rw[testBit_lt_two_pow (lt_of_lt_of_le ha (pow_le_pow_right om om)),decide_eq_false hi];rfl
theorem anI{a b:Nat}(ha:a<2^62)(hb:b<2^62):bits .andNot .i64 (a:Int) (b:Int)=(gI (λv=>a.testBit v && !b.testBit v) 62:Int):=by show IntKind.i64.wrap (((BitVec.ofInt 64 (a:Int)) &&& ~~~(BitVec.ofInt 64 (b:Int))).toNat:Int)=_;rw[BitVec.toNat_and,BitVec.toNat_not,dp ha,dp hb,anN ha hb];exact DN (Ry 62)
theorem anU{a b:Nat}(ha:a<2^62)(hb:b<2^62):bits .andNot .u64 (a:Int) (b:Int)=(gI (λv=>a.testBit v && !b.testBit v) 62:Int):=by show IntKind.u64.wrap (((BitVec.ofInt 64 (a:Int)) &&& ~~~(BitVec.ofInt 64 (b:Int))).toNat:Int)=_;rw[BitVec.toNat_and,BitVec.toNat_not,dp ha,dp hb,anN ha hb];have:=Ry (p:=λv=>a.testBit v && !b.testBit v) 62;rw[F5]at this;exact Qj om om
theorem AO{a b:Nat}(ha:a<2^62):gI (λv=>a.testBit v && !b.testBit v) 62=0↔fN a b:=by
 constructor
 ·intro h i hi;have:=congrArg (λn=>Nat.testBit n i) h;have QH:i<62:=by
   rcases lt_or_ge i 62 with h1|h1;·exact h1
   ·rw[testBit_lt_two_pow (lt_of_lt_of_le ha (pow_le_pow_right om h1))]at hi;cases hi
  simp only[QS,QH,hi,decide_true,Bool.true_and,Nat.zero_testBit]at this;simpa using this
 ·intro h;refine eq_of_testBit_eq λi=>?_
  rw[QS,Nat.zero_testBit];cases hi:a.testBit i with
  | true=>rw[h i hi];simp
  | false=>simp
theorem Dv{a b:Nat}(ha:a<2^62)(hb:b<2^62):(bits .andNot .i64 (a:Int) (b:Int)==0)=decide (a &&& b=a):=by rw[anI ha hb,Bool.eq_iff_iff,beq_iff_eq,decide_eq_true_iff,<-fB,<-AO ha];omega
theorem Jm{a b:Nat}(ha:a<2^62)(hb:b<2^62):(bits .andNot .u64 (a:Int) (b:Int)==0)=decide (a &&& b=a):=by rw[anU ha hb,Bool.eq_iff_iff,beq_iff_eq,decide_eq_true_iff,<-fB,<-AO ha];omega
theorem oF{a:Nat}(h:a<256):a<2^62:=lt_trans h (by decide)
theorem Jt{a b:Nat}(ha:a<256)(hb:b<256){Q:Bool->Prop}(h:Q (decide (a &&& b=a))):pf (a:Int) (b:Int) Q:=by refine Mf ha ?_;rw[Dv (oF ha) (oF hb)];exact h
variable{out:List Nat}
theorem Lr(hl:out.length<=1099511627776)(hb:∀t∈out,t<256)(hs:s<256){Q:Int->Prop}(h:∀x:Int,(0<=x↔Rh out s)->Q x):cH (up out) (s:Int) Q:=by
 unfold cH;rw[show((up out).length:Int)=((out.length:Nat):Int)by rw[cC]];refine vS (λi=>∃h:i<out.length,fN out[i] s) om (λi next hi hI hn=>?_) (λhI=>?_)
 ·refine⟨om,?_⟩;rw[qA hi];refine Jt (hb _ (getElem_mem hi)) hs (Qb (λhc=>?_) (λhc=>hn λ⟨_,Sw⟩=>hc (fB.1 Sw)));exact h _ ⟨λ_=>⟨_,getElem_mem hi,fB.2 hc⟩,λ_=>om⟩
 ·refine h _ ⟨λhc=>absurd hc (by decide),λ⟨t,ht,hc⟩=>?_⟩
  obtain⟨i,hi,rfl⟩:=List.getElem_of_mem ht;exact absurd ⟨hi,hc⟩ (hI i hi)
theorem EP(hl:out.length<=1099511627776)(hb:∀t∈out,t<256)(hs:s<256){Q:Bool->Prop}(h:Q (out.any λt=>decide (t &&& s=t))):c_ (up out) (s:Int) Q:=Lr hl hb hs λx hx=>by grind [xu]
theorem ub(h:i<m.length):nu (m.take (i+1))=BN (nu (m.take i)) m[i]:=by rw[fS h,vk]
theorem pP(hl:l.length<=1099511627776)(hb:∀t∈l,t<256){Q:List Int->Prop}(h:∀m:List Nat,Can m->(∀t,t∈m->t∈l)->(∀s,Rh m s↔Rh l s)->Q (up m)):ep (up l) Q:=by
 refine HU hl hb λm hm SC UX=>?_;have hmb:∀t∈m,t<256:=λt ht=>hb t ((SC t).1 ht);have hn:((up m).length:Int)=((m.length:Nat):Int):=by rw[cC]
 refine gB (n:=m.length) (λi=>((i:Int),up (nu (m.take i)))) (λy=>y.1) 0 (λi=>by (try dsimp only);omega) (by rw[List.take_zero];rfl) ?_ ?_
 ·intro i next hi Q6
  have WY:=ko (m.take i);have hmi:∀t∈nu (m.take i),t<256:=λt ht=>hmb t (List.mem_of_mem_take (WY.subset ht));have hle:(nu (m.take i)).length<=m.length:=Nat.le_trans WY.length_le (by rw[length_take];omega);refine Qb (λ_=>⟨by rw[hn];omega,?_⟩) (λhc=>absurd (by rw[hn];omega) hc);rw[qA hi];rw[ub hi]at Q6;refine EP om hmi (hmb _ (getElem_mem hi)) ⟨λhc=>?_,λhc=>?_⟩
  ·grind [BN,Qe,up]
  ·grind [BN,Qe]
 ·intro next
  refine Qb (λhc=>absurd hc (by rw[hn];(try dsimp only);omega)) (λ_=>?_)
  try dsimp only
  rw[take_length];obtain⟨h1,h2⟩:=AB (l:=m) (hm.imp λh=>.inl h) (λt ht=>lt_trans (hmb t ht) (by decide));exact h _ h1 (λt ht=>(SC t).1 ((ko m).subset ht)) (λs=>(h2 s).trans (nI SC))
theorem xp(hm:Can m)(hb:∀t∈m,t<256):m.length<=256:=by have:=List.Nodup.length_le_of_subset (l₁:=m) (l₂:=range 256) hm.nodup (λt ht=>List.mem_range.2 (hb t ht));simpa using this
structure Xb(l:List Nat):Prop where
 le:l.length<=1024
 lt:∀t∈l,t<256
theorem Xb.of(hm:Can m)(hb:∀t∈m,t<256):Xb m:=⟨Nat.le_trans (xp hm hb) (by decide),hb⟩
theorem Lh(h:x<256){Q:Bool->Prop}(hQ:Q true):qf (x:Int) Q:=Qb (λ_=>by rw[decide_eq_true om];exact hQ) (λhc=>absurd om hc)
theorem BO{ls:List (List Nat)}(hl:ls.length<=1024)(hf:∀l∈ls,Xb l){Q:Option Int->Prop}(h:Q none):iH (ls.map up) Q:=by
 have hn:((ls.map up).length:Int)=((ls.length:Nat):Int):=by rw[length_map]
 have Tg:∀i (hi:i<ls.length),P9 (ls.map up) (i:Int)=up ls[i]:=λi hi=>by rw[uI (by simpa using hi)];simp
 refine gB (n:=ls.length) (λi=>(i:Int)) (λy=>y) 0 (λi=>om) rfl ?_ ?_
 ·intro i next hi Q6
  have hF:=hf _ (getElem_mem hi);have hle:=hF.le;refine Qb (λ_=>⟨by rw[hn];omega,?_⟩) (λhc=>absurd (by rw[hn];omega) hc);rw[Tg i hi];refine Qb (λhc=>absurd hc (by rw[cC];omega)) (λ_=>?_)
  refine gB (n:=ls[i].length) (λj=>(j:Int)) (λy=>y) 0 (λj=>om) rfl ?_ ?_;·intro j Qd hj TL;refine Qb (λ_=>⟨by rw[cC];omega,?_⟩) (λhc=>absurd (by rw[cC];omega) hc);rw[qA hj];exact Lh (hF.lt _ (getElem_mem hj)) (aB (λhc=>by cases hc) (λ_=>⟨Qo,by simpa using TL⟩))
  ·intro Qd;exact Qb (λhc=>absurd hc (by rw[cC];omega)) (λ_=>⟨Qo,by simpa using Q6⟩)
 ·intro next
  exact Qb (λhc=>absurd hc (by rw[hn];omega)) (λ_=>h)
theorem JH{a b:List Nat}(ha:a.length<=1024)(hb:b.length<=1024){Q:List Int->Prop}(h:Q (up (a++b))):fP [up a,up b] Q:=by
 have hl:([up a,up b].length:Int)=2:=rfl;have a0:P9 [up a,up b] 0=up a:=rfl;have a1:P9 [up a,up b] 1=up b:=rfl;have go:∀(n:Nat) (f:Nat->Int×Int),True:=λ_ _=>trivial;refine gB (n:=2) (λi=>(if i=0 then 0 else if i=1 then (a.length:Int)else a.length+b.length,(i:Int))) (λy=>y.2) 0 (λi=>by (try dsimp only);omega) rfl ?_ ?_
 ·intro i next hi Q6
  refine Qb (λ_=>⟨by rw[hl];(try dsimp only);omega,?_⟩) (λhc=>absurd (by rw[hl];(try dsimp only);omega) hc);match i,hi with
  | 0,_=>
   have e:P9 [up a,up b] ((0:Nat):Int)=up a:=rfl;try dsimp only at Q6 ⊢
   rw[e,cC];refine⟨by unfold Qe;simp;omega,Qb (λhc=>absurd hc Qy) (λ_=>⟨by unfold Qe;simp,?_⟩)⟩;simpa using Q6
  | 1,_=>
   have e:P9 [up a,up b] ((1:Nat):Int)=up b:=rfl;try dsimp only at Q6 ⊢
   rw[e,cC];refine⟨by unfold Qe;simp;omega,Qb (λhc=>absurd hc (by simp;omega)) (λ_=>⟨by unfold Qe;simp,?_⟩)⟩;simpa using Q6
 ·intro next
  refine Qb (λhc=>absurd hc (by rw[hl];(try dsimp only);omega)) (λ_=>⟨by simp;omega,?_⟩);refine gB (n:=2) (λi=>((i:Int),if i=0 then []else if i=1 then up a else up (a++b))) (λy=>y.1) 0 (λi=>by (try dsimp only);omega) rfl ?_ ?_
  ·intro i Qd hi Q6;refine Qb (λ_=>⟨by rw[hl];(try dsimp only);omega,?_⟩) (λhc=>absurd (by rw[hl];(try dsimp only);omega) hc);match i,hi with
   | 0,_=>
    have e:P9 [up a,up b] ((0:Nat):Int)=up a:=rfl;try dsimp only at Q6 ⊢
    rw[e];refine⟨by simp[cC];omega,by unfold Qe;simp,?_⟩;simpa using Q6
   | 1,_=>
    have e:P9 [up a,up b] ((1:Nat):Int)=up b:=rfl;try dsimp only at Q6 ⊢
    rw[e];refine⟨by simp[cC];omega,by unfold Qe;simp,?_⟩;simpa[Bj]using Q6
  ·intro Qd;exact Qb (λhc=>absurd hc (by rw[hl];(try dsimp only);omega)) (λ_=>h)
variable{Q:List Int->Option Int->Prop}
theorem Fg(h:m.length<=1024)(hQ:Q (up m) none):kC (up m) Q:=Qb (λhc=>absurd hc (by rw[cC];omega)) (λ_=>hQ)
theorem Hg(hl:Xb l)(h:∀m:List Nat,Can m->(∀t,t∈m->t∈l)->(∀s,Rh m s↔Rh l s)->Q (up m) none):lK (up l) Q:=
 BO (ls:=[l]) Qy (λx hx=>by rw[mem_singleton]at hx;subst hx;exact hl)
  (aB (λhc=>by cases hc) (λ_=>pP (Nat.le_trans hl.le (by decide)) hl.lt h))
theorem NN{a b:List Nat}(ha:Xb a)(hb:Xb b)(h:∀m:List Nat,Can m->(∀t,t∈m->t∈a++b)->(∀s,Rh m s↔Rh (a++b) s)->Q (up m) none):gb (up a) (up b) Q:=by
 have U9:=ha.le;have Zk:=hb.le;have QH:∀t∈a++b,t<256:=λt ht=>(List.mem_append.1 ht).elim (ha.lt t) (hb.lt t);refine BO (ls:=[a,b]) Qy (λx hx=>?_) (aB (λhc=>by cases hc) (λ_=>JH U9 Zk (pP (by rw[length_append];omega) QH λm hm hs hc=>Fg ?_ (h m hm hs hc))))
 ·rcases List.mem_cons.1 hx with rfl|hx;·exact ha
  ·rw[mem_singleton]at hx;subst hx;exact hb
 ·exact(Xb.of hm λt ht=>QH t (hs t ht)).le
structure Uni(G:Nat->Prop)(seen:Qa Bool)(u:List Nat):Prop where
 mem:∀t,t∈u↔G t
 get:∀t:Nat,bB seen [(t:Int)]=if t∈u then some true else none
variable{v:Nat}
theorem Uni.step{G:Nat->Prop}{seen:Qa Bool}{u:List Nat}(h:Uni G seen u)(hv:v∉u):Uni (λt=>G t\/t=v) (QL seen [(v:Int)] true) (u++[v]):=⟨λt=>by rw[List.mem_append,mem_singleton,h.mem],λt=>by
  rw[bH,h.get];by_cases e:t=v;·subst e;simp
  ·rw[if_neg om];simp[e]⟩
theorem Bb{a b:List Nat}(ha:Xb a)(hb:Xb b)(h:∀m:List Nat,Can m->(∀t,t∈m->t∈rk a b)->(∀s,Rh m s↔Rh (rk a b) s)->Q (up m) none):cR (up a) (up b) Q:=by
 refine BO (ls:=[a,b]) Qy (λx hx=>?_) (aB (λhc=>by cases hc) (λ_=>?_))
 ·rcases List.mem_cons.1 hx with rfl|hx;·exact ha
  ·rw[mem_singleton]at hx;subst hx;exact hb
 refine pP (Nat.le_trans ha.le (by decide)) ha.lt λa' ca ma va=>pP (Nat.le_trans hb.le (by decide)) hb.lt λb' cb mb vb=>?_;have la:∀t∈a',t<256:=λt ht=>ha.lt t (ma t ht);have lb:∀t∈b',t<256:=λt ht=>hb.lt t (mb t ht);have na:=xp ca la;have nb:=xp cb lb;have hor:∀i j (hi:i<a'.length) (hj:j<b'.length),bits .or .i64 ((a'[i]:Nat):Int) ((b'[j]:Nat):Int)=((a'[i] ||| b'[j]:Nat):Int):=λi j hi hj=>mg (oF (la _ (getElem_mem hi))) (oF (lb _ (getElem_mem hj)));refine bu (n:=a'.length) (λi y=>y.1=(i:Int)/\∃u:List Nat,y.2.2=up u/\u.length<=i*b'.length/\Uni (λt=>∃i',∃h:i'<a'.length,i'<i/\∃y∈b',t=a'[i'] ||| y) y.2.1 u) (λy=>y.1) 0 (λi y hy=>by rw[hy.1];omega) ?_ ?_ ?_;·exact⟨rfl,[],rfl,by simp,⟨λt=>⟨λh=>absurd h Qy,λ⟨i',_,h2,_⟩=>absurd h2 om⟩,λt=>by simp[h_]⟩⟩
 ·rintro i ⟨x,seen,un⟩ next hi ⟨hx,u,hu,XY,hU⟩ Q6
  dsimp only at hx hu hU;subst hx hu;refine Qb (λ_=>⟨by rw[cC];omega,?_⟩) (λhc=>absurd (by rw[cC];omega) hc);refine bu (n:=b'.length) (λj y=>y.1=(j:Int)/\∃u:List Nat,y.2.2=up u/\u.length<=i*b'.length+j/\Uni (λt=>(∃i',∃h:i'<a'.length,i'<i/\∃y∈b',t=a'[i'] ||| y)\/∃j',∃h:j'<b'.length,j'<j/\t=a'[i] ||| b'[j']) y.2.1 u) (λy=>y.1) 0 (λj y hy=>by rw[hy.1];omega) ?_ ?_ ?_;·refine⟨rfl,u,rfl,om,⟨λt=>(hU.mem t).trans ⟨.inl,λh=>h.elim id λ⟨_,_,h2,_⟩=>absurd h2 om⟩,hU.get⟩⟩
  ·rintro j ⟨x,acM,un2⟩ Qd hj ⟨hx,u2,hu,XX,YJ⟩ TL;dsimp only at hx hu YJ;subst hx hu;have hm:i*b'.length+j+1<=65536:=by have:=Nat.mul_le_mul (show i+1<=256 by omega) nb;rw[Nat.add_mul,Nat.one_mul]at this;omega
   refine Qb (λ_=>⟨by rw[cC];omega,?_⟩) (λhc=>absurd (by rw[cC];omega) hc);rw[qA hi,qA hj,hor i j hi hj,YJ.get];by_cases T7:a'[i] ||| b'[j]∈u2
   ·rw[if_pos T7];refine aB (λhc=>by simp at hc) (λ_=>⟨Qo,TL _ ⟨by (try dsimp only);omega,u2,rfl,om,⟨λt=>(YJ.mem t).trans ?_,YJ.get⟩⟩⟩);refine⟨λh=>h.imp id λ⟨j',h1,h2,h3⟩=>⟨j',h1,om,h3⟩,λh=>h.elim .inl λ⟨j',h1,h2,h3⟩=>?_⟩
    rcases lt_or_ge j' j with h4|h4;·exact .inr ⟨j',h1,h4,h3⟩
    ·obtain rfl:j'=j:=om;have:=(YJ.mem _).1 T7;rwa[<-h3]at this
   ·rw[if_neg T7];refine aB (λ_=>⟨by rw[length_append,cC];simp;omega,Qo,TL _ ⟨by (try dsimp only);omega,u2++[a'[i] ||| b'[j]],by rw[Bj];rfl,by rw[length_append];simp;omega,?_⟩⟩) (λhc=>by simp at hc);obtain⟨g1,g2⟩:=YJ.step T7;refine⟨λt=>(g1 t).trans ⟨λh=>?_,λh=>?_⟩,g2⟩
    ·rcases h with(h|⟨j',h1,h2,h3⟩)|h;·exact .inl h
     ·exact .inr ⟨j',h1,om,h3⟩
     ·exact .inr ⟨j,hj,om,h⟩
    ·rcases h with h|⟨j',h1,h2,h3⟩;·exact .inl (.inl h)
     ·rcases lt_or_ge j' j with h4|h4;·exact .inl (.inr ⟨j',h1,h4,h3⟩)
      ·obtain rfl:j'=j:=om;exact .inr h3
  ·rintro⟨x,acM,un2⟩ Qd ⟨hx,u2,hu,XX,YJ⟩;dsimp only at hx hu YJ;subst hx hu;refine Qb (λhc=>absurd hc (by rw[cC];omega)) (λ_=>⟨Qo,Q6 _ ⟨by (try dsimp only);omega,u2,rfl,by rw[Nat.add_mul,Nat.one_mul];exact XX,⟨λt=>(YJ.mem t).trans ⟨λh=>?_,λh=>?_⟩,YJ.get⟩⟩⟩)
   ·rcases h with⟨i',h1,h2,h3⟩|⟨j',h1,h2,h3⟩;·exact⟨i',h1,om,h3⟩
    ·exact⟨i,hi,om,_,getElem_mem h1,h3⟩
   ·obtain⟨i',h1,h2,y,hy,h3⟩:=h;rcases lt_or_ge i' i with h4|h4;·exact .inl ⟨i',h1,h4,y,hy,h3⟩
    ·obtain rfl:i'=i:=om;obtain⟨j',SU,rfl⟩:=List.getElem_of_mem hy;exact .inr ⟨j',SU,SU,h3⟩
 ·rintro⟨x,seen,un⟩ next ⟨hx,u,hu,XY,hU⟩
  dsimp only at hx hu hU;subst hx hu;refine Qb (λhc=>absurd hc (by rw[cC];omega)) (λ_=>?_)
  have SC:∀t,t∈u↔t∈rk a' b':=λt=>(hU.mem t).trans (by
   unfold rk;rw[List.mem_flatMap];constructor;·rintro⟨i',h1,_,y,hy,rfl⟩;exact⟨_,getElem_mem h1,List.mem_map.2 ⟨y,hy,rfl⟩⟩
   ·rintro⟨x,hx,ht⟩;obtain⟨y,hy,rfl⟩:=List.mem_map.1 ht;obtain⟨i',Q9,rfl⟩:=List.getElem_of_mem hx;exact⟨i',Q9,Q9,y,hy,rfl⟩)
  have hp:∀t,t∈rk a' b'->t∈rk a b:=λt ht=>by unfold rk at ht ⊢;obtain⟨x,hx,ht⟩:=List.mem_flatMap.1 ht;obtain⟨y,hy,rfl⟩:=List.mem_map.1 ht;exact List.mem_flatMap.2 ⟨x,ma x hx,List.mem_map.2 ⟨y,mb y hy,rfl⟩⟩
  have alQ:u.length<=65536:=Nat.le_trans XY (Nat.mul_le_mul na nb);have hub:∀t∈u,t<256:=λt ht=>xc (n:=8) (l:=a') (m:=b') la lb t ((SC t).1 ht);refine pP om hub λm hm hs hc=>Fg (Xb.of hm λt ht=>hub t (hs t ht)).le (h m hm (λt ht=>hp t ((SC t).1 (hs t ht))) λs=>?_)
  rw[hc,nI SC,ux,ux,va,vb]
theorem Qw.Zp(hn:n<=8)(h:Qw n F l):Xb l:=Xb.of h.can λt ht=>lt_of_lt_of_le (h.lt t ht) (pow_le_pow_right (n:=2) (j:=8) (by decide) hn)
theorem Jy(hn:n<=8){a b:List Nat}(ha:Qw n F a)(hb:Qw n G b)(h:∀m,Qw n (λs=>F s||G s) m->Q (up m) none):gb (up a) (up b) Q:=NN (ha.Zp hn) (hb.Zp hn) λm hm hs hc=>h m (GT ha hb hm (λt ht=>(List.mem_append.1 (hs t ht)).elim (ha.lt t) (hb.lt t)) hc)
theorem zw(hn:n<=8){a b:List Nat}(ha:Qw n F a)(hb:Qw n G b)(h:∀m,Qw n (λs=>F s&&G s) m->Q (up m) none):cR (up a) (up b) Q:=Bb (ha.Zp hn) (hb.Zp hn) λm hm hs hc=>h m (AJ ha hb hm (λt ht=>xc ha.lt hb.lt t (hs t ht)) hc)
def Y'(a b:Nat):Bool:=decide (dR 24 a<dR 24 b\/dR 24 a=dR 24 b/\a<=b)
theorem Nt(hb:∀t,t∈l->t<2^24):∃m,Can m/\(∀t,t∈m->t∈l)/\∀s,Rh m s↔Rh l s:=by
 have hp:(l.mergeSort Y').Perm l:=List.mergeSort_perm l Y';have hs:(l.mergeSort Y').Pairwise (λa b=>Y' a b=true):=List.pairwise_mergeSort (λa b c h1 h2=>by
  simp only[Y',decide_eq_true_eq]at h1 h2 ⊢;omega) (λa b=>by
  simp only[Y',Bool.or_eq_true,decide_eq_true_eq];omega) l
 have hm:∀t,t∈l.mergeSort Y'↔t∈l:=λt=>hp.mem_iff
 obtain⟨h1,h2⟩:=AB (l:=l.mergeSort Y') (hs.imp λh=>by
  simp only[Y',decide_eq_true_eq]at h;unfold qP;omega) (λt ht=>hb t ((hm t).1 ht))
 exact⟨_,h1,λt ht=>(hm t).1 ((ko _).subset ht),λs=>(h2 s).trans (nI hm)⟩
theorem Jx(hn:n<=8){a b:List Nat}(ha:Qw n F a)(hb:Qw n G b){K:List Int->Option Int->Prop}(h:∀m,Qw n (λs=>F s&&G s) m->K (up m) none):Dl (cR (up a) (up b)) K:=by have QH:=xc ha.lt hb.lt;obtain⟨m0,h1,h2,h3⟩:=Nt (l:=rk a b) λt ht=>lt_of_lt_of_le (QH t ht) (pow_le_pow_right (by decide) om);have c0:=AJ ha hb h1 (λt ht=>QH t (h2 t ht)) h3;exact⟨up m0,none,zw hn ha hb λm hm=>⟨by rw[hm.uniq c0],rfl⟩,h m0 c0⟩
structure TS(o place:List Int)(nodes:List P')(unique memo:Qa Int):Prop where
 ord:Rv o
 pl:place.length=o.length
 pl2:∀v:Nat,v<o.length->P9 place (v:Int)=(eU o v:Int)
 tb:TB o.length (eU o) nodes unique memo
abbrev RL(o:List Int)(nodes:List P')(r:Int):Nat:=lvl o.length (eU o) nodes r.toNat
variable{r a b:Int}{L:Nat}
section
variable{o place:List Int}{nodes:List P'}{unique memo:Qa Int}
theorem TS.wt(h:TS o place nodes unique memo):WT o.length (eU o) nodes:=h.tb.wt
theorem TS.at(h:TS o place nodes unique memo){r:Int}(hr:Vd nodes r)(h2:2<=r):nodes[(r-2).toNat]? = some (P9 nodes (r-2))/\(0<=(P9 nodes (r-2)).T/\(P9 nodes (r-2)).T<o.length)/\(0<=(P9 nodes (r-2)).F/\(P9 nodes (r-2)).F<r)/\(0<=(P9 nodes (r-2)).D/\(P9 nodes (r-2)).D<r)/\ RL o nodes r=eU o (P9 nodes (r-2)).T.toNat/\RL o nodes r<RL o nodes (P9 nodes (r-2)).F/\RL o nodes r<RL o nodes (P9 nodes (r-2)).D:=by
 have h0:=hr.1;have h1:=hr.2;have hx:=kQ (N:=nodes) (i:=(r-2).toNat) om;rw[show(((r-2).toNat:Nat):Int)=r-2 by omega]at hx;obtain⟨a,b,c,d,e,f⟩:=h.wt.nd _ _ hx;have hl:RL o nodes r=eU o (P9 nodes (r-2)).T.toNat:=by have:=kq (n:=o.length) (lev:=eU o) hx;rw[show 2+(r-2).toNat=r.toNat by omega]at this;exact this
 exact⟨hx,a,⟨om,om⟩,⟨om,om⟩,hl,by rw[hl];exact e,by rw[hl];exact f⟩
theorem qp(h:TS o place nodes unique memo)(hb:nodes.length<=1099511627776)(hr:Vd nodes r){Q:Int->Prop}(hQ:Q (RL o nodes r:Int)):bo r o place nodes unique memo Q:=by
 have h0:=hr.1;have h1:=hr.2;refine Qb (λh2=>?_) (λh2=>?_)
 ·rw[show RL o nodes r=o.length from ga om]at hQ;exact hQ
 ·obtain⟨_,a,_,_,e,_,_⟩:=h.at hr om;have hp:=h.pl;have:=h.pl2 (P9 nodes (r-2)).T.toNat om;rw[show(((P9 nodes (r-2)).T.toNat:Nat):Int)=(P9 nodes (r-2)).T by omega]at this;refine⟨Qo,⟨om,om⟩,⟨om,om⟩,?_⟩;rw[this,<-e];exact hQ
def Vf(o:List Int)(nodes:List P')(r:Int)(L:Nat)(b:Bool):Int:=if RL o nodes r=L then (bif b then (P9 nodes (r-2)).D else (P9 nodes (r-2)).F)else r
theorem EK(h:TS o place nodes unique memo)(hb:nodes.length<=1099511627776)(hr:Vd nodes r)(hL:L<o.length){Q:Int->Int->Prop}(hQ:Q (Vf o nodes r L false) (Vf o nodes r L true)):bJ r (L:Int) o place nodes unique memo Q:=by
 have h0:=hr.1;have h1:=hr.2;refine qp h hb hr (iY (λhc=>?_) (λhc=>?_))
 ·rw[Vf,Vf,if_neg om,if_neg om]at hQ;exact hQ
 ·have h2:2<=r:=by
   by_cases h2:r<2;·rw[show RL o nodes r=o.length from ga om]at hc;omega
   ·omega
  rw[Vf,Vf,if_pos om,if_pos om]at hQ;exact⟨Qo,⟨om,om⟩,hQ⟩
theorem Nf(h:TS o place nodes unique memo)(hr:Vd nodes r)(hL:L<o.length)(b:Bool):Vd nodes (Vf o nodes r L b):=by
 have h0:=hr.1;have h1:=hr.2;unfold Vf;split
 ·rename_i hc;have h2:2<=r:=by
   by_cases h2:r<2;·rw[show RL o nodes r=o.length from ga om]at hc;omega
   ·omega
  obtain⟨_,_,c,d,_⟩:=h.at hr h2;cases b;·exact⟨c.1,by simp only[cond_false];omega⟩
  ·exact⟨d.1,by simp only[cond_true];omega⟩
 ·exact hr
theorem KX(h:TS o place nodes unique memo)(hr:Vd nodes r)(hL:L<o.length)(hLr:L<=RL o nodes r)(b:Bool):L+1<=RL o nodes (Vf o nodes r L b):=by
 have h0:=hr.1;have h1:=hr.2;unfold Vf;split
 ·rename_i hc;have h2:2<=r:=by
   by_cases h2:r<2;·rw[show RL o nodes r=o.length from ga om]at hc;omega
   ·omega
  obtain⟨_,_,_,_,_,f,g⟩:=h.at hr h2;cases b;·simp only[cond_false];omega
  ·simp only[cond_true];omega
 ·rename_i hc;omega
theorem BP(h:TS o place nodes unique memo)(hr:Vd nodes r)(hv:v<o.length)(hLr:eU o v<=RL o nodes r)(b:Bool)(σ:R7):dn nodes (Vf o nodes r (eU o v) b) σ=dn nodes r (cF σ v b):=by
 have h0:=hr.1;have h1:=hr.2;have Zf:=(h.ord.Rg hv).1;unfold Vf;split
 ·rename_i hc;have h2:2<=r:=by
   by_cases h2:r<2;·rw[show RL o nodes r=o.length from ga om]at hc;omega
   ·omega
  obtain⟨hx,a,c,d,e,_,_⟩:=h.at hr h2;have hvv:(P9 nodes (r-2)).T.toNat=v:=h.ord.ord.lv.inj _ _ om hv om;have:=h.wt.Rt hx σ b;rw[hvv,show 2+(r-2).toNat=r.toNat by omega]at this;unfold dn;rw[this];cases b<;>rfl
 ·rename_i hc;exact(h.wt.Sa h1 (by show eU o v<RL o nodes r;omega) σ).symm
theorem Lb:(a==b)=decide (a=b):=by rw[Bool.eq_iff_iff];simp
theorem Mr(h:TS o place nodes unique memo)(hr:Vd nodes r){l:Nat}(hl:l<=lvl o.length (eU o) nodes r.toNat):Ts (dn nodes r) ((jn o).drop l):=(h.wt.dep h.ord.ord hr.2).sub λv hv=>h.ord.ord.mem.2 ⟨(h.ord.ord.mem.1 hv).1,by have:=(h.ord.ord.mem.1 hv).2;omega⟩
theorem yz(h:TS o place nodes unique memo)(hr:Vd nodes r){l:Nat}(hl:l<=o.length)(hd:Ts (dn nodes r) ((jn o).drop l)):l<=RL o nodes r:=h.wt.Sn h.ord.ord hr.2 hl hd
theorem JC(h:TS o place nodes unique memo)(hb:nodes.length+1<=1099511627776){v lo hi:Int}(hv:0<=v/\v<o.length)(Sr:Vd nodes lo)(Sx:Vd nodes hi)(h1:eU o v.toNat<RL o nodes lo)(h2:eU o v.toNat<RL o nodes hi) :
  ∃Qm Qq r,(TS o place Qm Qq memo/\RA nodes Qm/\Vd Qm r/\(∀σ,dn Qm r σ=bif σ v.toNat then dn nodes hi σ else dn nodes lo σ)/\Qm.length<=nodes.length+1)/\
   ∀Q:List P'->Qa Int->Int->Prop,Q Qm Qq r->cN v lo hi o place nodes unique memo Q:=by
 by_cases he:lo=hi;·exact⟨nodes,unique,lo,⟨h,RA.refl _,Sr,λσ=>by rw[<-he];cases σ v.toNat<;>rfl,om⟩,λQ hQ=>bk (λ_=>hQ) (λhc=>absurd he hc)⟩
 cases hm:bB unique [v,lo,hi]with
 | some r=>
  obtain⟨a,b⟩:=h.tb.Ux hm;refine⟨nodes,unique,r,⟨h,RA.refl _,a,b,om⟩,λQ hQ=>bk (λhc=>absurd hc he) (λ_=>aB (λhc=>?_) (λ_=>?_))⟩
  ·rw[hm]at hc;cases hc
  ·rw[hm];exact hQ
 | none=>
  obtain⟨a,b,c⟩:=h.tb.TA hv Sr Sx he h1 h2 hm;refine⟨_,_,_,⟨⟨h.ord,h.pl,h.pl2,a⟩,⟨_,rfl⟩,b,c,by simp⟩,λQ hQ=>bk (λhc=>absurd hc he) (λ_=>aB (λ_=>⟨Qo,by rw[length_append,length_singleton];omega,hQ⟩) (λhc=>?_))⟩
  rw[hm]at hc;cases hc
theorem JI:∀(k fu:Nat) {nodes:List P'} {unique memo:Qa Int} {c a b:Int},k<fu->TS o place nodes unique memo->nodes.length+2^k<=1099511627776->Vd nodes c->Vd nodes a->Vd nodes b->o.length<=k+RL o nodes c->o.length<=k+RL o nodes a->o.length<=k+RL o nodes b->
  ∃Qm Qq QE r,(TS o place Qm Qq QE/\RA nodes Qm/\Vd Qm r/\(∀σ,dn Qm r σ=bif dn nodes c σ then dn nodes a σ else dn nodes b σ)/\Qm.length+1<=nodes.length+2^k)/\
   ∀Q:List P'->Qa Int->Qa Int->Int->Prop,Q Qm Qq QE r->az fu c a b o place nodes unique memo Q:=by
 intro k;induction k with
 | zero=>
  intro fu nodes unique memo c a b UN h hb hc ha Sq lc la lb;obtain⟨g,rfl⟩:∃g,fu=g+1:=⟨fu-1,om⟩;have Vr:=hc.1;have Sw:c<2:=by
   by_cases h2:c<2;·exact h2
   ·obtain⟨_,x,_,_,e,_⟩:=h.at hc om;have:=(h.ord.Rg (v:=(P9 nodes (c-2)).T.toNat) om).1;omega
  rcases (show c=0\/c=1 by omega)with rfl|rfl;·refine⟨nodes,unique,memo,b,⟨h,RA.refl _,Sq,λσ=>by rw[W_];rfl,by simp⟩,λQ hQ=>?_⟩;rw[az];refine⟨λ_=>False,⟨λx=>x=decide (a=b),bk (λhh=>by cases hh) (λ_=>Lb),?_⟩,λ_ hh=>hh.elim⟩;rintro x rfl;refine Qb (λhe=>by rw[he];exact hQ) (λ_=>bk (λ_=>hQ) (λhh=>absurd rfl hh))
  ·refine⟨nodes,unique,memo,a,⟨h,RA.refl _,ha,λσ=>by rw[W9];rfl,by simp⟩,λQ hQ=>?_⟩;rw[az];refine⟨λ_=>False,⟨λx=>x=true,bk (λ_=>rfl) (λhh=>absurd rfl hh),?_⟩,λ_ hh=>hh.elim⟩;rintro x rfl;exact aB (λ_=>hQ) (λhh=>by cases hh)
 | succ k ih=>
  intro fu nodes unique memo c a b UN h hb hc ha Sq lc la lb;obtain⟨g,rfl⟩:∃g,fu=g+1:=⟨fu-1,om⟩;have hpk:0<2^k:=pow_pos om;rw[pow_succ]at hb;have h1:1<=2^(k+1):=pow_pos om;have Vr:=hc.1;by_cases q1:c=1\/a=b
  ·refine⟨nodes,unique,memo,a,⟨h,RA.refl _,ha,λσ=>?_,om⟩,λQ hQ=>?_⟩
   ·rcases q1 with rfl|rfl;·rw[W9];rfl
    ·cases dn nodes c σ<;>rfl
   ·rw[az];refine⟨λ_=>False,⟨λx=>x=true,bk (λ_=>rfl) (λhh=>by simpa using q1.resolve_left hh),?_⟩,λ_ hh=>hh.elim⟩;rintro x rfl;exact aB (λ_=>hQ) (λhh=>by cases hh)
  by_cases q2:c=0;·refine⟨nodes,unique,memo,b,⟨h,RA.refl _,Sq,λσ=>by rw[q2,W_];rfl,om⟩,λQ hQ=>?_⟩;rw[az];refine⟨λ_=>False,⟨λx=>x=false,bk (λhh=>absurd (.inl hh) q1) (λ_=>by simpa using λhh=>q1 (.inr hh)),?_⟩,λ_ hh=>hh.elim⟩;rintro x rfl;exact aB (λhh=>by cases hh) (λ_=>bk (λ_=>hQ) (λhh=>absurd q2 hh))
  by_cases q3:a=1/\b=0;·refine⟨nodes,unique,memo,c,⟨h,RA.refl _,hc,λσ=>by rw[q3.1,q3.2,W_,W9];cases dn nodes c σ<;>rfl,om⟩,λQ hQ=>?_⟩;rw[az];refine⟨λ_=>False,⟨λx=>x=false,bk (λhh=>absurd (.inl hh) q1) (λ_=>by simpa using λhh=>q1 (.inr hh)),?_⟩,λ_ hh=>hh.elim⟩;rintro x rfl;exact aB (λhh=>by cases hh) (λ_=>bk (λhh=>absurd hh q2) (λ_=>bk (λ_=>bk (λ_=>hQ) (λhh=>absurd q3.2 hh)) (λhh=>absurd q3.1 hh)))
  have enter:∀Q:List P'->Qa Int->Qa Int->Int->Prop,
    af (isSome (bB memo [c,a,b]))
    (Q nodes unique memo (getD (bB memo [c,a,b]) 0))
    (bo c o place nodes unique memo λr=>
    bo a o place nodes unique memo λr1=>
    bo b o place nodes unique memo λr2=>
    bJ c (min (min r r1) r2) o place nodes unique memo λr3 r4=>
    bJ a (min (min r r1) r2) o place nodes unique memo λr5 r6=>
    bJ b (min (min r r1) r2) o place nodes unique memo λr7 r8=>
    az g r3 r5 r7 o place nodes unique memo λu u1 u2 lo=>
    az g r4 r6 r8 o place u u1 u2 λu3 u4 u5 hi=>
    ((0:Int)<=(min (min r r1) r2)/\(min (min r r1) r2)<(o.length:Int))/\
    cN (P9 o (min (min r r1) r2)) lo hi o place u3 u4 u5 λu6 u7 r9=>
    Q u6 u7 (QL u5 [c,a,b] r9) r9)->az (g+1) c a b o place nodes unique memo Q:=λQ hq=>by
   rw[az];refine⟨λ_=>True,⟨λx=>x=false,bk (λhh=>absurd (.inl hh) q1) (λ_=>by simpa using λhh=>q1 (.inr hh)),?_⟩,λ_ _=>hq⟩;rintro x rfl;exact aB (λhh=>by cases hh) (λ_=>bk (λhh=>absurd hh q2) (λ_=>bk (λq4=>bk (λhh=>absurd ⟨q4,hh⟩ q3) (λ_=>trivial)) (λ_=>trivial)))
  cases hm:bB memo [c,a,b]with
  | some r=>
   obtain⟨_,m2,m3⟩:=h.tb.me c a b r hm;refine⟨nodes,unique,memo,r,⟨h,RA.refl _,m2,m3,om⟩,λQ hQ=>enter Q ?_⟩;rw[hm];exact aB (λ_=>hQ) (λhh=>by cases hh)
  | none=>
   have Sw:2<=c:=om;obtain⟨_,cv,_,_,ce,_⟩:=h.at hc Sw;have clv:=(h.ord.Rg (v:=(P9 nodes (c-2)).T.toNat) om).1;generalize hL:min (min (RL o nodes c) (RL o nodes a)) (RL o nodes b)=L;have hLn:L<o.length:=om;have hLI:min (min (RL o nodes c:Int) (RL o nodes a:Int)) (RL o nodes b:Int)=(L:Int):=om;have Yg:nodes.length<=1099511627776:=om;obtain⟨v,hv⟩:∃v:Nat,P9 o (L:Int)=v:=⟨(P9 o (L:Int)).toNat,by have:=h.ord.rg L hLn;omega⟩;have WB:v<o.length:=by have:=h.ord.rg L hLn;omega
   have hvL:eU o v=L:=by have:=h.ord.Ve hLn;rwa[hv,toNat_natCast]at this
   have kv:=λ(r:Int) (hr:Vd nodes r) (b:Bool)=>Nf h hr hLn b;have kl:=λ(r:Int) (hr:Vd nodes r) (hl:L<=RL o nodes r) (b:Bool)=>KX h hr hLn hl b;have kd:=λ(r:Int) (hr:Vd nodes r) (hl:L<=RL o nodes r) (b:Bool) (σ:R7)=>by have:=BP h hr WB (by rw[hvL];exact hl) b σ;rwa[hvL]at this
   have lC:L<=RL o nodes c:=om;have lA:L<=RL o nodes a:=om;have lB:L<=RL o nodes b:=om;obtain⟨n1,u1,m1,lo,⟨t1,p1,v1,d1,s1⟩,w1⟩:=ih g om h om (kv c hc false) (kv a ha false) (kv b Sq false) (by have:=kl c hc lC false;omega) (by have:=kl a ha lA false;omega) (by have:=kl b Sq lB false;omega);have lv1:∀r b,Vd nodes r->L<=RL o nodes r->L+1<=RL o n1 (Vf o nodes r L b):=λr b hr hl=>by show L+1<=lvl o.length (eU o) n1 (Vf o nodes r L b).toNat;rw[RA.lvl (kv r hr b) p1];exact kl r hr hl b
   obtain⟨n2,u2,m2,hi,⟨t2,p2,v2,d2,s2⟩,w2⟩:=ih g om t1 om ((kv c hc true).pre p1) ((kv a ha true).pre p1) ((kv b Sq true).pre p1) (by have:=lv1 c true hc lC;omega) (by have:=lv1 a true ha lA;omega) (by have:=lv1 b true Sq lB;omega);have v1':=v1.pre p2;have dlo:∀σ,dn n2 lo σ=bif dn nodes c (cF σ v false)then dn nodes a (cF σ v false)else dn nodes b (cF σ v false):=λσ=>by rw[cG v1 p2,d1,kd c hc lC,kd a ha lA,kd b Sq lB]
   have dhi:∀σ,dn n2 hi σ=bif dn nodes c (cF σ v true)then dn nodes a (cF σ v true)else dn nodes b (cF σ v true):=λσ=>by rw[d2,cG (kv c hc true) p1,cG (kv a ha true) p1,cG (kv b Sq true) p1,kd c hc lC,kd a ha lA,kd b Sq lB]
   have dep:∀(r:Int) (hr:Vd nodes r),L<=RL o nodes r->∀(b:Bool) (σ σ':R7),(∀w∈(jn o).drop (L+1),σ w=σ' w)->dn nodes r (cF σ v b)=dn nodes r (cF σ' v b):=λr hr hl b σ σ' hh=>by
    have:=Mr h hr hl;have hdr:(jn o).drop L=v::(jn o).drop (L+1):=by have:=h.ord.ord.drop WB;rwa[hvL]at this
    rw[hdr]at this;exact this.set σ σ' hh
   have llo:L+1<=RL o n2 lo:=yz t2 v1' om λσ σ' hh=>by simp only[dlo];rw[dep c hc lC false σ σ' hh,dep a ha lA false σ σ' hh,dep b Sq lB false σ σ' hh]
   have lhi:L+1<=RL o n2 hi:=yz t2 v2 om λσ σ' hh=>by simp only[dhi];rw[dep c hc lC true σ σ' hh,dep a ha lA true σ σ' hh,dep b Sq lB true σ σ' hh]
   obtain⟨n3,u3,r,⟨t3,p3,v3,d3,s3⟩,w3⟩:=JC t2 om (v:=(v:Int)) ⟨om,om⟩ v1' v2 (by rw[toNat_natCast,hvL];omega) (by rw[toNat_natCast,hvL];omega);have XJ:=(p1.trans p2).trans p3;have ads:∀σ,dn n3 r σ=bif dn nodes c σ then dn nodes a σ else dn nodes b σ:=λσ=>by
    rw[d3,toNat_natCast];cases hs:σ v;·rw[cond_false,dlo,show cF σ v false=σ by rw[<-hs];exact Bv]
    ·rw[cond_true,dhi,show cF σ v true=σ by rw[<-hs];exact Bv]
   refine⟨n3,u3,QL m2 [c,a,b] r,r,⟨⟨t3.ord,t3.pl,t3.pl2,t3.tb.XR (hc.pre XJ) (ha.pre XJ) (Sq.pre XJ) v3 (λσ=>by rw[cG hc XJ,cG ha XJ,cG Sq XJ];exact ads σ)⟩,XJ,v3,ads,by rw[pow_succ];omega⟩,λQ hQ=>enter Q ?_⟩;rw[hm];refine aB (λhh=>by cases hh) (λ_=>qp h Yg hc (qp h Yg ha (qp h Yg Sq ?_)));rw[hLI];refine EK h Yg hc hLn (EK h Yg ha hLn (EK h Yg Sq hLn (w1 _ (w2 _ ⟨⟨om,om⟩,?_⟩))));rw[hv];exact w3 _ hQ
end
variable{e:Int}
section
variable{o place:List Int}{nodes:List P'}{unique memo:Qa Int}
structure After(o place:List Int)(nodes Qm:List P')(Qq QE:Qa Int)(r:Int)(f:R7->Bool)(c:Nat):Prop where
 ts:TS o place Qm Qq QE
 pre:RA nodes Qm
 vd:Vd Qm r
 dn:dn Qm r=f
 le:Qm.length<=nodes.length+c
theorem kS(h:TS o place nodes unique memo)(hb:nodes.length+2^o.length<=1099511627776){c:Int}(hc:Vd nodes c)(ha:Vd nodes a)(Sq:Vd nodes b) :
  ∃Qm Qq QE r,After o place nodes Qm Qq QE r (λσ=>bif dn nodes c σ then dn nodes a σ else dn nodes b σ) (2^o.length)/\
   ∀Q:List P'->Qa Int->Qa Int->Int->Prop,Q Qm Qq QE r->∃fu,az fu c a b o place nodes unique memo Q:=by
 obtain⟨n1,u1,m1,r,⟨a1,a2,a3,a4,a5⟩,w⟩:=JI o.length (o.length+1) om h hb hc ha Sq om om om;exact⟨n1,u1,m1,r,⟨a1,a2,a3,funext a4,om⟩,λQ hQ=>⟨o.length+1,w Q hQ⟩⟩
theorem Pf(h:TS o place nodes unique memo)(hb:nodes.length+2^o.length<=1099511627776)(ha:Vd nodes a)(Sq:Vd nodes b) :
  ∃Qm Qq QE r,After o place nodes Qm Qq QE r (λσ=>dn nodes a σ&&dn nodes b σ) (2^o.length)/\
   ∀Q:List P'->Qa Int->Qa Int->Int->Prop,Q Qm Qq QE r->eF a b o place nodes unique memo Q:=by
 obtain⟨n1,u1,m1,r,h1,w⟩:=kS h hb ha Sq Y0;refine⟨n1,u1,m1,r,⟨h1.ts,h1.pre,h1.vd,by rw[h1.dn,W_];funext σ;cases dn nodes a σ<;>rfl,h1.le⟩,λQ hQ=>w Q hQ⟩
theorem P7(h:TS o place nodes unique memo)(hb:nodes.length+2^o.length<=1099511627776)(ha:Vd nodes a)(Sq:Vd nodes b) :
  ∃Qm Qq QE r,After o place nodes Qm Qq QE r (λσ=>dn nodes a σ||dn nodes b σ) (2^o.length)/\
   ∀Q:List P'->Qa Int->Qa Int->Int->Prop,Q Qm Qq QE r->eQ a b o place nodes unique memo Q:=by
 obtain⟨n1,u1,m1,r,h1,w⟩:=kS h hb ha YZ Sq;refine⟨n1,u1,m1,r,⟨h1.ts,h1.pre,h1.vd,by rw[h1.dn,W9];funext σ;cases dn nodes a σ<;>rfl,h1.le⟩,λQ hQ=>w Q hQ⟩
theorem Md(h:TS o place nodes unique memo)(hb:nodes.length+2^o.length<=1099511627776)(ha:Vd nodes a) :
  ∃Qm Qq QE r,After o place nodes Qm Qq QE r (λσ=>!dn nodes a σ) (2^o.length)/\
   ∀Q:List P'->Qa Int->Qa Int->Int->Prop,Q Qm Qq QE r->eD a o place nodes unique memo Q:=by
 obtain⟨n1,u1,m1,r,h1,w⟩:=kS h hb ha Y0 YZ;refine⟨n1,u1,m1,r,⟨h1.ts,h1.pre,h1.vd,by rw[h1.dn,W_,W9];funext σ;cases dn nodes a σ<;>rfl,h1.le⟩,λQ hQ=>w Q hQ⟩
theorem Pc(h:TS o place nodes unique memo)(hb:nodes.length+2*2^o.length<=1099511627776)(ha:Vd nodes a)(Sq:Vd nodes b) :
  ∃Qm Qq QE r,After o place nodes Qm Qq QE r (λσ=>dn nodes a σ != dn nodes b σ) (2*2^o.length)/\
   ∀Q:List P'->Qa Int->Qa Int->Int->Prop,Q Qm Qq QE r->eB a b o place nodes unique memo Q:=by
 obtain⟨n1,u1,m1,r1,h1,w1⟩:=Md h om Sq;have:=h1.le;obtain⟨n2,u2,m2,r,h2,w2⟩:=kS h1.ts om (ha.pre h1.pre) h1.vd (Sq.pre h1.pre);have:=h2.le;refine⟨n2,u2,m2,r,⟨h2.ts,h1.pre.trans h2.pre,h2.vd,?_,om⟩,λQ hQ=>w1 _ (w2 Q hQ)⟩;rw[h2.dn,h1.dn,cG ha h1.pre,cG Sq h1.pre];funext σ;show(bif dn nodes a σ then !dn nodes b σ else dn nodes b σ)=_;cases dn nodes a σ<;>cases dn nodes b σ<;>rfl
theorem Cg(h:TS o place nodes unique memo)(hb:nodes.length+1<=1099511627776){v:Int}(hv:0<=v/\v<o.length) :
  ∃Qm Qq r,After o place nodes Qm Qq memo r (λσ=>σ v.toNat) 1/\
   ∀Q:List P'->Qa Int->Int->Prop,Q Qm Qq r->cq v o place nodes unique memo Q:=by
 have hl:=(h.ord.Rg (v:=v.toNat) om).1;obtain⟨n1,u1,r,⟨a1,a2,a3,a4,a5⟩,w⟩:=JC h hb hv Y0 YZ (by show _<lvl _ _ _ 0;rw[ga om];exact hl) (by show _<lvl _ _ _ 1;rw[ga om];exact hl);refine⟨n1,u1,r,⟨a1,a2,a3,?_,a5⟩,λQ hQ=>w Q hQ⟩;funext σ;rw[a4,W_,W9];cases σ v.toNat<;>rfl
def sF(K:Nat):Nat->Nat
 | 0=>0
 | k+1=>2*sF K k+K
theorem Cq{K:Nat}:∀k,sF K k+K<=2^k*K
 | 0=>by simp[sF]
 | k+1=>by have:=Cq (K:=K) k;rw[sF,pow_succ,Nat.mul_right_comm];omega
def JG(nodes:List P')(e:Nat)(g:R7->Bool)(done:Qa Int):Prop:=∀r x,bB done [r]=some x->Vd nodes r/\Vd nodes x/\∀σ,dn nodes x σ=dn nodes r (cF σ e (g σ))
theorem JG.pre{Qm:List P'}{e:Nat}{g:R7->Bool}{done:Qa Int}(h:JG nodes e g done)(hp:RA nodes Qm):JG Qm e g done:=λr x hx=>by obtain⟨a,b,c⟩:=h r x hx;exact⟨a.pre hp,b.pre hp,λσ=>by rw[cG a hp,cG b hp];exact c σ⟩
theorem DH(he:0<=e/\e<o.length):∀(k fu:Nat) {nodes:List P'} {unique memo done:Qa Int} {r Ws:Int} {g:R7->Bool},k<fu->TS o place nodes unique memo->nodes.length+sF (2^o.length+1) k<=1099511627776->Vd nodes r->Vd nodes Ws->dn nodes Ws=g->JG nodes e.toNat g done->o.length<=k+RL o nodes r->
  ∃UI Qm Qq QE x,(JG Qm e.toNat g UI/\After o place nodes Qm Qq QE x (λσ=>dn nodes r (cF σ e.toNat (g σ))) (sF (2^o.length+1) k))/\
   ∀Q:Qa Int->List P'->Qa Int->Qa Int->Int->Prop,Q UI Qm Qq QE x->aY fu r e Ws done o place nodes unique memo Q:=by
 intro k;have TW:e.toNat<o.length:=om;have Uh:0<2^o.length:=pow_pos om;induction k with
 | zero=>
  intro fu nodes unique memo done r Ws g UN h hb hr Xo hg hD hk;obtain⟨f,rfl⟩:∃f,fu=f+1:=⟨fu-1,om⟩;have QH:=(h.ord.Rg TW).1;have hp:=h.pl;have Xl:=h.pl2 e.toNat TW;rw[show((e.toNat:Nat):Int)=e by omega]at Xl;refine⟨done,nodes,unique,memo,r,⟨hD,⟨h,RA.refl _,hr,funext λσ=>(h.wt.Sa hr.2 (by show eU o e.toNat<RL o nodes r;omega) σ).symm,om⟩⟩,λQ hQ=>?_⟩;rw[aY];refine⟨_,qp h om hr rfl,⟨om,om⟩,Qb (λ_=>hQ) (λhc=>absurd ?_ hc)⟩;rw[Xl];omega
 | succ k ih=>
  intro fu nodes unique memo done r Ws g UN h hb hr Xo hg hD hk;obtain⟨f,rfl⟩:∃f,fu=f+1:=⟨fu-1,om⟩;have QH:=(h.ord.Rg TW).1;have hp:=h.pl;have Xl:=h.pl2 e.toNat TW;rw[show((e.toNat:Nat):Int)=e by omega]at Xl;rw[sF]at hb;have V_:nodes.length<=1099511627776:=om;by_cases q1:eU o e.toNat<RL o nodes r;·refine⟨done,nodes,unique,memo,r,⟨hD,⟨h,RA.refl _,hr,funext λσ=>(h.wt.Sa hr.2 q1 σ).symm,om⟩⟩,λQ hQ=>?_⟩;rw[aY];refine⟨_,qp h V_ hr rfl,⟨om,om⟩,Qb (λ_=>hQ) (λhc=>absurd ?_ hc)⟩;rw[Xl];omega
  have enter:∀Q:Qa Int->List P'->Qa Int->Qa Int->Int->Prop,_->aY (f+1) r e Ws done o place nodes unique memo Q:=λQ hq=>by
   rw[aY];exact⟨_,qp h V_ hr rfl,⟨om,om⟩,Qb (λhc=>absurd (by rw[Xl]at hc;omega) q1) (λ_=>hq)⟩
  cases hm:bB done [r]with
  | some x=>
   obtain⟨_,m2,m3⟩:=hD r x hm;refine⟨done,nodes,unique,memo,x,⟨hD,⟨h,RA.refl _,m2,by rw[<-hg]at m3 ⊢;exact funext m3,om⟩⟩,λQ hQ=>enter Q ?_⟩;rw[hm];exact aB (λ_=>hQ) (λhc=>by cases hc)
  | none=>
   have h2:2<=r:=by
    by_cases h2:r<2;·have h0:=hr.1;rw[show RL o nodes r=o.length from ga om]at q1;omega
    ·omega
   obtain⟨hx,xv,xl,xh,xe,xlo,xhi⟩:=h.at hr h2;have Vk:=hr.2;generalize hV:(P9 nodes (r-2)).T=vr at xv xe;generalize hLo:(P9 nodes (r-2)).F=lo at xl xlo;generalize hHi:(P9 nodes (r-2)).D=hi at xh xhi;have vlo:Vd nodes lo:=⟨xl.1,om⟩;have vhi:Vd nodes hi:=⟨xh.1,om⟩;have hdr:∀σ,dn nodes r σ=bif σ vr.toNat then dn nodes hi σ else dn nodes lo σ:=λσ=>by have:=h.wt.SF hx σ;rw[hV,hLo,hHi,show 2+(r-2).toNat=r.toNat by omega]at this;exact this
   by_cases q2:vr=e
   ·obtain⟨n1,u1,m1,x,a1,w1⟩:=kS h om Xo vhi vlo;have hdx:dn n1 x=λσ=>dn nodes r (cF σ e.toNat (g σ)):=by rw[a1.dn];funext σ;rw[hdr,q2,rS,hg];have e1:dn nodes hi (cF σ e.toNat (g σ))=dn nodes hi σ:=h.wt.Sa vhi.2 (by show eU o e.toNat<RL o nodes hi;rw[q2]at xe;omega) σ;have e2:dn nodes lo (cF σ e.toNat (g σ))=dn nodes lo σ:=h.wt.Sa vlo.2 (by show eU o e.toNat<RL o nodes lo;rw[q2]at xe;omega) σ;rw[e1,e2]
    refine⟨QL done [r] x,n1,u1,m1,x,⟨λr' x' WX=>?_,⟨a1.ts,a1.pre,a1.vd,hdx,by have:=a1.le;rw[sF];omega⟩⟩,λQ hQ=>enter Q ?_⟩
    ·rw[bH]at WX;by_cases X4:r'=r;·rw[if_pos X4]at WX;cases WX;subst X4;exact⟨hr.pre a1.pre,a1.vd,λσ=>by rw[hdx,cG hr a1.pre]⟩
     ·rw[if_neg X4]at WX;exact hD.pre a1.pre r' x' WX
    ·rw[hm];refine aB (λhc=>by cases hc) (λ_=>⟨Qo,⟨om,om⟩,ol ?_⟩);rw[hV,hLo,hHi];exact bk (λ_=>w1 _ hQ) (λhc=>absurd q2 hc)
   ·obtain⟨n1,u1,r2,a1,w1⟩:=Cg h om (v:=vr) ⟨om,om⟩;have l1:=a1.le;obtain⟨d2,n2,u2,m2,r3,⟨D2,a2⟩,w2⟩:=ih f om a1.ts om (vhi.pre a1.pre) (Xo.pre a1.pre) (by rw[cG Xo a1.pre];exact hg) (hD.pre a1.pre) (by have:RL o n1 hi=RL o nodes hi:=RA.lvl vhi a1.pre;omega);have l2:=a2.le;have XK:=a1.pre.trans a2.pre;obtain⟨d3,n3,u3,m3,r4,⟨D3,a3⟩,w3⟩:=ih f om a2.ts om (vlo.pre XK) (Xo.pre XK) (by rw[cG Xo XK];exact hg) D2 (by have:RL o n2 lo=RL o nodes lo:=RA.lvl vlo XK;omega);have l3:=a3.le;have p23:=a2.pre.trans a3.pre;have XJ:=XK.trans a3.pre;obtain⟨n4,u4,m4,x,a4,w4⟩:=kS a3.ts om (a1.vd.pre p23) (a2.vd.pre a3.pre) a3.vd;have l4:=a4.le;have XI:=XJ.trans a4.pre;have hdx:dn n4 x=λσ=>dn nodes r (cF σ e.toNat (g σ)):=by rw[a4.dn,cG a1.vd p23,cG a2.vd a3.pre,a1.dn,a2.dn,a3.dn,cG vhi a1.pre,cG vlo XK];funext σ;rw[hdr,tL om]
    refine⟨QL d3 [r] x,n4,u4,m4,x,⟨λr' x' WX=>?_,⟨a4.ts,XI,a4.vd,hdx,by rw[sF];omega⟩⟩,λQ hQ=>enter Q ?_⟩
    ·rw[bH]at WX;by_cases X4:r'=r;·rw[if_pos X4]at WX;cases WX;subst X4;exact⟨hr.pre XI,a4.vd,λσ=>by rw[hdx,cG hr XI]⟩
     ·rw[if_neg X4]at WX;exact D3.pre a4.pre r' x' WX
    ·rw[hm];refine aB (λhc=>by cases hc) (λ_=>⟨Qo,⟨om,om⟩,ol ?_⟩);rw[hV,hLo,hHi];exact bk (λhc=>absurd hc q2) (λ_=>⟨n1,u1,r2,w1 _ ⟨rfl,rfl,rfl⟩,d2,n2,u2,m2,r3,w2 _ ⟨rfl,rfl,rfl,rfl,rfl⟩,d3,n3,u3,m3,r4,w3 _ ⟨rfl,rfl,rfl,rfl,rfl⟩,n4,u4,m4,x,(by
      obtain⟨fu,ahs⟩:=w4 (λy15 y16 y17 y18=>y15=n4/\y16=u4/\y17=m4/\y18=x) ⟨rfl,rfl,rfl,rfl⟩;exact⟨fu,ahs⟩),hQ⟩)
theorem Bd(h:TS o place nodes unique memo){Ws:Int}(he:0<=e/\e<o.length)(hb:nodes.length+2^o.length*(2^o.length+1)<=1099511627776)(hr:Vd nodes r)(Xo:Vd nodes Ws) :
  ∃Qm Qq QE x,After o place nodes Qm Qq QE x (λσ=>dn nodes r (cF σ e.toNat (dn nodes Ws σ))) (2^o.length*(2^o.length+1))/\
   ∀Q:List P'->Qa Int->Qa Int->Int->Prop,Q Qm Qq QE x->df r e Ws o place nodes unique memo Q:=by
 have hc:=Cq (K:=2^o.length+1) o.length;have WG:sF (2^o.length+1) o.length<=2^o.length*(2^o.length+1):=Nat.le_trans (Nat.le_add_right _ _) hc;obtain⟨d,n1,u1,m1,x,⟨_,a⟩,w⟩:=DH he o.length (o.length+1) om h (Nat.le_trans (Nat.add_le_add_left WG _) hb) hr Xo rfl (done:=de) (λr x hx=>by simp[h_]at hx) om;exact⟨n1,u1,m1,x,⟨a.ts,a.pre,a.vd,a.dn,Nat.le_trans a.le (Nat.add_le_add_left WG _)⟩,λQ hQ=>⟨o.length+1,w _ hQ⟩⟩
theorem zp(h:TS o place nodes unique memo){b:Bool}(he:0<=e/\e<o.length)(hb:nodes.length+2^o.length*(2^o.length+1)<=1099511627776)(hr:Vd nodes r) :
  ∃Qm Qq QE x,After o place nodes Qm Qq QE x (λσ=>dn nodes r (cF σ e.toNat b)) (2^o.length*(2^o.length+1))/\
   ∀Q:List P'->Qa Int->Qa Int->Int->Prop,Q Qm Qq QE x->cX r e b o place nodes unique memo Q:=by
 cases b with
 | true=>
  obtain⟨n1,u1,m1,x,a,w⟩:=Bd h he hb hr YZ;rw[W9]at a;exact⟨n1,u1,m1,x,a,λQ hQ=>aB (λ_=>w _ hQ) (λhc=>by cases hc)⟩
 | false=>
  obtain⟨n1,u1,m1,x,a,w⟩:=Bd h he hb hr Y0;rw[W_]at a;exact⟨n1,u1,m1,x,a,λQ hQ=>aB (λhc=>by cases hc) (λ_=>w _ hQ)⟩
theorem Na{V:Type}{m:Qa V}{k:List Int}{v:V}:(QL m k v).n<=m.n+1:=by
 unfold QL;dsimp only;cases (m.f k).isSome;·exact Nat.le_refl _
 ·exact Nat.le_succ _
theorem Ba(h:TS o place nodes unique memo)(hb:nodes.length<=1099511627776):∀(k fu:Nat) {seen:Qa Bool} {r most:Int},k<fu->Vd nodes r->o.length<=k+RL o nodes r->∃Tx:Qa Bool,Tx.n+1<=seen.n+2^k/\∀Q:Qa Bool->Prop,Q Tx->aW fu r most seen o place nodes unique memo Q:=by
 intro k;induction k with
 | zero=>
  intro fu seen r most UN hr hk;obtain⟨f,rfl⟩:∃f,fu=f+1:=⟨fu-1,om⟩;refine⟨seen,by simp,λQ hQ=>?_⟩;rw[aW];refine Qb (λ_=>hQ) (λhc=>?_)
  obtain⟨_,x,_,_,e,_⟩:=h.at hr om;have:=(h.ord.Rg (v:=(P9 nodes (r-2)).T.toNat) om).1;omega
 | succ k ih=>
  intro fu seen r most UN hr hk;obtain⟨f,rfl⟩:∃f,fu=f+1:=⟨fu-1,om⟩;have hpk:0<2^k:=pow_pos om;rw[pow_succ];by_cases h2:r<2;·refine⟨seen,om,λQ hQ=>?_⟩;rw[aW];exact Qb (λ_=>hQ) (λhc=>absurd h2 hc)
  by_cases h3:getD (bB seen [r]) false=true;·refine⟨seen,om,λQ hQ=>?_⟩;rw[aW];exact Qb (λ_=>hQ) (λ_=>aB (λ_=>hQ) (λhc=>by rw[h3]at hc;cases hc))
  by_cases h4:most<((Qa.n seen:Nat):Int);·refine⟨seen,om,λQ hQ=>?_⟩;rw[aW];exact Qb (λ_=>hQ) (λ_=>aB (λ_=>hQ) (λ_=>Qb (λ_=>hQ) (λhc=>absurd h4 hc)))
  obtain⟨_,_,xl,xh,_,xlo,xhi⟩:=h.at hr om;have Vk:=hr.2;have hn:=Na (m:=seen) (k:=[r]) (v:=true);obtain⟨s1,c1,w1⟩:=ih f (seen:=QL seen [r] true) (r:=(P9 nodes (r-2)).F) (most:=most) om ⟨xl.1,om⟩ om;obtain⟨s2,c2,w2⟩:=ih f (seen:=s1) (r:=(P9 nodes (r-2)).D) (most:=most) om ⟨xh.1,om⟩ om;refine⟨s2,om,λQ hQ=>?_⟩;rw[aW];exact Qb (λhc=>absurd hc h2) (λ_=>aB (λhc=>absurd hc h3) (λ_=>Qb (λhc=>absurd hc h4) (λ_=>⟨Qo,⟨om,om⟩,s1,w1 _ rfl,Qo,⟨om,om⟩,s2,w2 _ rfl,hQ⟩)))
theorem Ll(h:TS o place nodes unique memo)(hb:nodes.length<=1099511627776)(hn:o.length<=12)(hr:Vd nodes r){Q:Bool->Prop}(hQ:Q true):bP r 4096 o place nodes unique memo Q:=by obtain⟨s,c,w⟩:=Ba h hb o.length (o.length+1) (seen:=de) (r:=r) (most:=4096) om hr om;have h12:2^o.length<=4096:=pow_le_pow_right (n:=2) om hn;have h0:(de:Qa Bool).n=0:=rfl;refine⟨o.length+1,w _ ?_⟩;rw[decide_eq_true om];exact hQ
theorem EN(h:TS o place nodes unique memo)(hb:nodes.length<=1099511627776){root:Int}{oo:List Int}:∀(k fu:Nat) {refs:Qa Int} {M:List P'} {r:Int},k<fu->Vd nodes r->o.length<=k+RL o nodes r->EX o.length (eU o) nodes refs M->M.length+2^k<=1099511627776->
  ∃(T2:Qa Int) (M':List P') (x:Int),(EX o.length (eU o) nodes T2 M'/\0<=x/\cP (jn o) (dn nodes r) M=(M',x.toNat)/\M'.length+1<=M.length+2^k/\∀q:Int,r<q->bB T2 [q]=bB refs [q])/\
   ∀Q:Qa Int->List P'->Int->Prop,Q T2 M' x->be fu r root refs oo M o place nodes unique memo Q:=by
 intro k;induction k with
 | zero=>
  intro fu refs M r UN hr hk hE hB;obtain⟨f,rfl⟩:∃f,fu=f+1:=⟨fu-1,om⟩;have h0:=hr.1;have h2:r<2:=by
   by_cases h2:r<2;·exact h2
   ·obtain⟨_,x,_,_,e,_⟩:=h.at hr om;have:=(h.ord.Rg (v:=(P9 nodes (r-2)).T.toNat) om).1;omega
  have hm:bB refs [r]=some r:=by
   rcases (show r=0\/r=1 by omega)with rfl|rfl;·exact hE.c0
   ·exact hE.c1
  refine⟨refs,M,r,⟨hE,h0,hE.old h.ord.ord h.wt hm,by simp,λ_ _=>rfl⟩,λQ hQ=>?_⟩;rw[be,hm];exact aB (λ_=>hQ) (λhc=>by cases hc)
 | succ k ih=>
  intro fu refs M r UN hr hk hE hB;obtain⟨f,rfl⟩:∃f,fu=f+1:=⟨fu-1,om⟩;have hpk:0<2^k:=pow_pos om;rw[pow_succ]at hB ⊢;cases hm:bB refs [r]with
  | some x=>
   refine⟨refs,M,x,⟨hE,(hE.sound r x hm).2.2.1,hE.old h.ord.ord h.wt hm,om,λ_ _=>rfl⟩,λQ hQ=>?_⟩;rw[be,hm];exact aB (λ_=>hQ) (λhc=>by cases hc)
  | none=>
   have h0:=hr.1;have h2:2<=r:=by
    by_cases h2:r<2
    ·rcases (show r=0\/r=1 by omega)with rfl|rfl;·rw[hE.c0]at hm;cases hm
     ·rw[hE.c1]at hm;cases hm
    ·omega
   obtain⟨hx,_,xl,xh,_,xlo,xhi⟩:=h.at hr h2;have Vk:=hr.2;obtain⟨r1,M1,y1,⟨E1,z1,e1,c1,k1⟩,w1⟩:=ih f (refs:=refs) (M:=M) (r:=(P9 nodes (r-2)).F) om ⟨xl.1,om⟩ om hE om;obtain⟨r2,M2,y2,⟨E2,z2,e2,c2,k2⟩,w2⟩:=ih f (refs:=r1) (M:=M1) (r:=(P9 nodes (r-2)).D) om ⟨xh.1,om⟩ om E1 om;have Tj:bB r2 [r]=none:=by rw[k2 r om,k1 r om];exact hm
   have er:r=((2+(r-2).toNat:Nat):Int):=om;have hN:=EX.node h.ord.ord h.wt hE.wt E2 hx z1 z2 e1 e2 (by rw[<-er];exact Tj);rw[<-er]at hN;obtain⟨ha,hE3⟩:=hN;have hlen:(M2++[(⟨(P9 nodes (r-2)).T,y1,y2⟩:P')]).length=M2.length+1:=by rw[length_append];rfl
   refine⟨_,_,((2+M2.length:Nat):Int),⟨hE3,om,?_,by rw[hlen];omega,λq hq=>?_⟩,λQ hQ=>?_⟩;·rw[show dn nodes r=λσ=>den nodes σ (2+(r-2).toNat)from ?_,ha,toNat_natCast];funext σ;unfold dn;congr 1;omega
   ·rw[bH,if_neg om,k2 q om,k1 q om]
   ·rw[be,hm];refine aB (λhc=>by cases hc) (λ_=>⟨Qo,⟨om,om⟩,w1 _ (w2 _ ⟨by rw[hlen];omega,by rw[hlen];unfold Qe;omega,?_⟩)⟩);rw[hlen,bH,if_pos rfl,show(1+((M2.length+1:Nat):Int))=((2+M2.length:Nat):Int)by omega];exact hQ
theorem JF(h:TS o place nodes unique memo)(hb:nodes.length<=1099511627776)(hr:Vd nodes r){Q:Qs->Prop}(hQ:Q (vH o (dn nodes r))):dA r o place nodes unique memo Q:=by
 have hn:=h.ord.le;have hp:=vD hn;obtain⟨refs,M,x,⟨_,z,e,_,_⟩,w⟩:=EN h hb (root:=0) (oo:=o) o.length (o.length+1) (refs:=QL (QL (de:Qa Int) [0] 0) [1] 1) (M:=[]) (r:=r) om hr om EX.start (by simp;omega);refine⟨om,o.length+1,w _ ?_⟩;have:(⟨o,M,x⟩:Qs)=vH o (dn nodes r):=by unfold vH;rw[e];simp only[Qs.mk.injEq,true_and];omega
 rw[this];exact hQ
end
theorem oQ{n:Int}{x:α}(h:0<=n):((bA n x).length:Int)=n:=by simp[bA];omega
theorem BC[Inhabited α]{n:Int}{x:α}(h:(i:Int)<n):P9 (bA n x) (i:Int)=x:=by simp[P9,bA,List.getD_eq_getElem?_getD,show i<n.toNat by omega]
theorem KO[Inhabited α]{a b:List α}{i:Int}(h:P9 a i≠P9 b i):a≠b:=λhe=>h (by rw[he])
theorem I2[Inhabited α]{a b:List α}{Q:Bool->Prop}{E:α->α->Bool}(hE:∀x y,E x y=false↔x=y)[Decidable (a=b)](la:a.length<=9223372036854775807)(hl:a.length=b.length)(h:Q (decide (a=b))) :aO (σ:=Int) 0 λx Qc=>
   af (decide (x<(a.length:Int)))
    (((0:Int)<=x/\x<(a.length:Int))/\
    ((0:Int)<=x/\x<(b.length:Int))/\
    af (E (P9 a x) (P9 b x))
     (Q false)
     (Qe (x+1)/\
     Qc (x+1)))
    (Q true):=by
 refine vS (n:=a.length) (λi=>P9 a (i:Int)≠P9 b (i:Int)) la (λi next hi hI hn=>⟨⟨om,om⟩,⟨om,om⟩,aB (λhc=>?_) (λhc=>hn (λhh=>hh ((hE _ _).1 hc)))⟩) (λhI=>?_)
 ·have QI:P9 a (i:Int)≠P9 b (i:Int):=λhh=>by rw[(hE _ _).2 hh]at hc;cases hc
  rw[decide_eq_false (KO QI)]at h;exact h
 ·rw[decide_eq_true (I1 hl λi hi=>by have:=hI i hi;exact Classical.not_not.1 this)]at h;exact h
theorem Ny{x y:Int}:(x != y)=false↔x=y:=by simp
theorem Ds{a b:List Int}{Q:Bool->Prop}(la:a.length<=9223372036854775807)(h:Q (decide (a=b))):bw a b Q:=iY (λhc=>by rw[decide_eq_false (λhe=>hc (by rw[he]))]at h;exact h) (λhc=>I2 (E:=λx y=>x != y) (λ_ _=>Ny) la om h)
theorem O0{x y:P'}:(!decide ([x.T,x.F,x.D]=[y.T,y.F,y.D]))=false↔x=y:=by rw[Bool.not_eq_false',decide_eq_true_eq,CX]
instance:DecidableEq Qs:=λa b=>decidable_of_iff (a.M=b.M/\a.N=b.N/\a.V=b.V) (by cases a;cases b;simp)
variable{o:List Int}
theorem Me{Q:List Int->List Int->Qa Int->Qa Int->Prop}(h:Rv o)(hQ:∀place,TS o place [] de de->Q o place de de):iJ o Q:=by
 have hle:=h.le;refine⟨om,⟨om,om,om,om⟩,?_⟩;refine bu (n:=o.length) (λi y=>y.1=(i:Int)/\y.2.length=o.length/\∀v:Nat,v<o.length->eU o v<i->P9 y.2 (v:Int)=(eU o v:Int)) (λy=>y.1) 0 (λi y hy=>by rw[hy.1];omega) ⟨rfl,by simp[bA],λv hv hl=>absurd hl om⟩ ?_ ?_
 ·rintro i ⟨x,out⟩ next hi ⟨hx,hl,hI⟩ hn
  dsimp only at hx hl hI;subst hx;have hr:=h.rg i hi;obtain⟨v,hv⟩:∃v:Nat,P9 o (i:Int)=v:=⟨(P9 o (i:Int)).toNat,om⟩;have Zf:=h.Ve hi;rw[hv,toNat_natCast]at Zf;refine Qb (λ_=>⟨⟨om,om⟩,om,Qo,hn _ ⟨by dsimp only;omega,by dsimp only;rw[ck];exact hl,λu hu XY=>?_⟩⟩) (λhc=>absurd (show(i:Int)<o.length by omega) hc);dsimp only;rw[hv,dO om];split;·rename_i he;subst he;rw[Zf]
  ·rename_i he;refine hI u hu ?_;rcases lt_or_ge (eU o u) i with h5|h5;·exact h5
   ·have h6:=(h.Rg hu).2;rw[show eU o u=i by omega,hv]at h6;omega
 ·rintro⟨x,out⟩ next ⟨hx,hl,hI⟩
  dsimp only at hx hl hI;subst hx;exact Qb (λhc=>absurd hc om) (λ_=>hQ out ⟨h,hl,λv hv=>hI v hv (h.Rg hv).1,TB.nil⟩)
def dF(d:Qs):R7->Bool:=dn d.N d.V
structure Opn(l:List Qs)(place:List Int)(nodes:List P')(unique memo:Qa Int)(refs:List Int):Prop where
 ts:TS (P9 l 0).M place nodes unique memo
 len:refs.length=l.length
 le:nodes.length<=4096*l.length
 ref:∀i:Nat,i<l.length->Vd nodes (P9 refs (i:Int))/\dn nodes (P9 refs (i:Int))=dF (P9 l (i:Int))
def noD:Qs:=⟨[],[],0⟩
section
variable{o place:List Int}{nodes:List P'}{unique memo:Qa Int}
end
theorem Tn{x:Qs}:P9 [x] (0:Int)=x:=rfl
variable{place:List Int}{Qm nodes:List P'}
theorem After.mono{Qq QE:Qa Int}{f:R7->Bool}{c':Nat}(h:After o place nodes Qm Qq QE r f c)(hc:c<=c'):After o place nodes Qm Qq QE r f c':=⟨h.ts,h.pre,h.vd,h.dn,Nat.le_trans h.le (Nat.add_le_add_left hc _)⟩
section
variable{a b:Qs}{Q:Qs->Option Int->Prop}
end
theorem J':V5 s v=s.testBit v:=Ta
structure Ys(n:Nat)(f:R7->Bool)(m:Nat):Prop where
 lt:m<2^n
 yes:f (V5 m)=true
 no:∀s,s<m->f (V5 s)=false
theorem Ys.ex{n:Nat}{f:R7->Bool}:∀k,k<=2^n->(∀s,s<k->f (V5 s)=false)\/∃m,Ys n f m
 | 0,_=>.inl λs hs=>absurd hs om
 | k+1,hk=>by
  rcases Ys.ex (n:=n) (f:=f) k om with h|h
  ·cases hf:f (V5 k)
   ·refine .inl λs hs=>?_;rcases lt_or_ge s k with h1|h1
    ·exact h s h1
    ·obtain rfl:s=k:=om;exact hf
   ·exact .inr ⟨k,om,hf,h⟩
  ·exact .inr h
structure Upd(n:Nat)(g f:R7->Bool)(i:Nat)(t:List Bool):Prop where
 len:t.length=2^n
 at_:∀s:Nat,s<2^n->P9 t (s:Int)=if s<i then g (V5 s)else f (V5 s)
theorem Ts.const{b:Bool}{vs:List Nat}:Ts (λ_=>b) vs:=λ_ _ _=>rfl
theorem gC{l:List α}{x:α}:(l++[x]).length=l.length+1:=by simp
theorem Hz:upto (k+1)=upto k++[((2+k:Nat):Int)]:=by simp[upto,List.range_succ]
theorem zk{n:Nat}{lev:Nat->Nat}{ord:List Nat}(hO:SH n lev ord):∀(k l:Nat),l+k=n->∀ {f:R7->Bool} {N:List P'},WT n lev N->Ts f (ord.drop l)->(∀i x,N.length<=i->(cP (ord.drop l) f N).1[i]? = some x->l<=lev x.T.toNat)/\∀N',RA (cP (ord.drop l) f N).1 N'->zy N'->QY N' (cP (ord.drop l) f N).2 (upto N.length)=upto (cP (ord.drop l) f N).1.length
 | 0,l,hk,f,N,h,hd=>by
  have e:ord.drop l=[]:=List.drop_eq_nil_of_le (by rw[hO.len];omega);rw[e,cP];refine⟨λi x hi hx=>?_,λN' _ _=>iC (.inl ?_)⟩;·have:=(List.getElem?_eq_some_iff.1 hx).1;simp only at this;omega
  ·simp only;split<;>omega
 | k+1,l,hk,f,N,h,hd=>by
  by_cases Ze:∃r,r<2+N.length/\∀σ,den N σ r=f σ
  ·obtain⟨r,hr,hf⟩:=Ze;rw[mF hO h (k+1) l hk hd hr hf];refine⟨λi x hi hx=>?_,λN' _ _=>iC ?_⟩;·have:=(List.getElem?_eq_some_iff.1 hx).1;simp only at this;omega
   ·rcases lt_or_ge r 2 with h2|h2;·exact .inl h2
    ·exact .inr (pQ.2 ⟨by simp only;omega,by simp only;omega⟩)
  have TG:=jT hO (k+1) l hk h hd;have hl:l<ord.length:=by rw[hO.len];omega
  have hdr:ord.drop l=ord[l]::ord.drop (l+1):=List.drop_eq_getElem_cons hl;generalize hv:ord[l]=v at hdr;have Tg:=hO.at_ l v (by rw[List.getElem?_eq_getElem hl,hv]);rw[hdr]at hd TG ⊢;obtain⟨a1,⟨M1,a2⟩,a3,a4⟩:=jT hO k (l+1) om (f:=λσ=>f (cF σ v false)) h hd.set;obtain⟨a5,a6⟩:=zk hO k (l+1) om (f:=λσ=>f (cF σ v false)) h hd.set;rw[cP]at TG ⊢;generalize hA:cP (ord.drop (l+1)) (λσ=>f (cF σ v false)) N=A at a1 a2 a3 a4 a5 a6 TG ⊢;obtain⟨b1,⟨M2,b2⟩,b3,b4⟩:=jT hO k (l+1) om (f:=λσ=>f (cF σ v true)) a1 hd.set;obtain⟨b5,b6⟩:=zk hO k (l+1) om (f:=λσ=>f (cF σ v true)) a1 hd.set;have Z4:∀r,r<2+A.1.length->(∀σ,den A.1 σ r=f (cF σ v true))->cP (ord.drop (l+1)) (λσ=>f (cF σ v true)) A.1=(A.1,r):=λr h1 h2=>mF hO a1 k (l+1) om hd.set h1 h2;generalize hB:cP (ord.drop (l+1)) (λσ=>f (cF σ v true)) A.1=B at b1 b2 b3 b4 b5 b6 TG Z4 ⊢;have aaB:∀i x,N.length<=i->B.1[i]? = some x->l+1<=lev x.T.toNat:=λi x hi hx=>by
   rcases lt_or_ge i A.1.length with h1|h1;·refine a5 i x hi ?_;rw[b2,List.getElem?_append_left h1]at hx;exact hx
   ·exact b5 i x h1 hx
  unfold Y9 at TG ⊢;by_cases heq:A.2=B.2
  ·rw[if_pos heq]at TG ⊢;have hBA:B=(A.1,A.2):=Z4 A.2 a3 λσ=>by rw[<-b4 σ,<-heq,b2,gn _ a3]
   refine⟨λi x hi hx=>Nat.le_of_succ_le (aaB i x hi hx),λN' hp hK=>?_⟩;simp only at hp ⊢;rw[hBA]at hp ⊢;exact a6 N' hp hK
  ·rw[if_neg heq]at TG ⊢;by_cases hm:(⟨(v:Int),(A.2:Int),(B.2:Int)⟩:P')∈B.1
   ·exfalso;rw[if_pos hm]at TG;have QH:B.1.idxOf (⟨(v:Int),(A.2:Int),(B.2:Int)⟩:P')<B.1.length:=List.idxOf_lt_length_of_mem hm;have TU:B.1[B.1.idxOf (⟨(v:Int),(A.2:Int),(B.2:Int)⟩:P')]? = some (⟨(v:Int),(A.2:Int),(B.2:Int)⟩:P'):=by rw[List.getElem?_eq_getElem QH,List.getElem_idxOf]
    rcases lt_or_ge (B.1.idxOf (⟨(v:Int),(A.2:Int),(B.2:Int)⟩:P')) N.length with h1|h1
    ·refine Ze ⟨2+B.1.idxOf (⟨(v:Int),(A.2:Int),(B.2:Int)⟩:P'),om,λσ=>?_⟩
     have:=TG.2.2.2 σ;simp only at this;rw[<-this,b2,a2,List.append_assoc,gn _ (by
      rw[b2,a2,List.append_assoc]at h1;omega)]
    ·have:=aaB _ _ h1 TU;simp only[toNat_natCast]at this;omega
   ·rw[if_neg hm];refine⟨λi x hi hx=>?_,λN' hp hK=>?_⟩
    ·simp only at hx;rcases lt_or_ge i B.1.length with h1|h1;·rw[List.getElem?_append_left h1]at hx;exact Nat.le_of_succ_le (aaB i x hi hx)
     ·have h2:=(List.getElem?_eq_some_iff.1 hx).1;rw[length_append,length_singleton]at h2;obtain rfl:i=B.1.length:=om;simp at hx;subst hx;simp only[toNat_natCast];omega
    ·simp only at hp ⊢;obtain⟨M,rfl⟩:=hp;have hx:(B.1++[(⟨(v:Int),(A.2:Int),(B.2:Int)⟩:P')]++M)[B.1.length]? = some (⟨(v:Int),(A.2:Int),(B.2:Int)⟩:P'):=by simp
     have hNB:N.length<=B.1.length:=by rw[b2,a2];simp
     rw[lE hK hx (λhc=>by have:=(pQ.1 hc).2;omega)];simp only[toNat_natCast];rw[a6 _ ⟨M2++[(⟨(v:Int),(A.2:Int),(B.2:Int)⟩:P')]++M,by rw[b2];simp⟩ hK,b6 _ ⟨[(⟨(v:Int),(A.2:Int),(B.2:Int)⟩:P')]++M,by simp⟩ hK,length_append,length_singleton,Hz]
theorem WT.ac2{lev:Nat->Nat}{N:List P'}(h:WT n lev N):zy N:=λi x hx=>⟨(h.nd i x hx).lo,(h.nd i x hx).hi⟩
section
variable{o:List Int}{f:R7->Bool}
theorem ND(h:Rv o)(hn:o.length<=12)(hd:Ts f (jn o)):VD (vH o f):=by
 obtain⟨a,_,c,_⟩:=rL h.ord WT.nil hd;have hl:=zm (jn o) f [];have hp:2^o.length<=4096:=pow_le_pow_right (n:=2) om hn;rw[iD]at hl;have VU:=(zk h.ord o.length 0 om (f:=f) WT.nil (by simpa using hd)).2 _ (RA.refl _);rw[List.drop_zero]at VU;refine⟨h,a,⟨by show(0:Int)<=((cP (jn o) f []).2:Int);omega,by show((cP (jn o) f []).2:Int).toNat<_;rw[toNat_natCast];exact c⟩,?_,?_⟩;·show(cP (jn o) f []).1.length<=4096;simp only[List.length_nil]at hl;omega
 ·show QY (cP (jn o) f []).1 ((cP (jn o) f []).2:Int).toNat []=upto (cP (jn o) f []).1.length;rw[toNat_natCast];exact VU a.ac2
theorem I7(h:Rv o)(hd:Ts f (jn o)):dF (vH o f)=f:=by obtain⟨_,_,_,e⟩:=rL h.ord WT.nil hd;funext σ;show den (cP (jn o) f []).1 σ ((cP (jn o) f []).2:Int).toNat=f σ;rw[toNat_natCast];exact e σ
end
theorem oY[Inhabited α]{l:List α}{x:α}{j:Int}(ha:0<=a/\a<l.length)(hj:0<=j):P9 (Qt l a x) j=if j=a then x else P9 l j:=by
 obtain⟨n,rfl⟩:∃n:Nat,a=n:=⟨a.toNat,om⟩;obtain⟨m,rfl⟩:∃n:Nat,j=n:=⟨j.toNat,om⟩;rw[dO om];by_cases h:m=n;·simp_all
 ·grind
def nR(ls:List Int)(m:List Bool):List Bool:=ls.foldl (λm a=>Qt m a true) m
theorem sY:∀(ls:List Int) (m:List Bool),(nR ls m).length=m.length
 | [],_=>rfl
 | a::ls,m=>by rw[nR,List.foldl_cons];exact(sY ls _).trans ck
theorem uO:∀(ls:List Int) (m:List Bool) {j:Int},(∀a∈ls,0<=a/\a<m.length)->0<=j->(P9 (nR ls m) j=true↔P9 m j=true\/j∈ls)
 | [],m,j,_,_=>by simp[nR]
 | a::ls,m,j,h,hj=>by
  have ha:=h a Qy;have ih:=uO ls (Qt m a true) (j:=j) (λb hb=>by rw[ck];exact h b (List.mem_cons_of_mem _ hb)) hj;rw[nR,List.foldl_cons];show P9 (nR ls (Qt m a true)) j=true↔_;rw[ih,oY ha hj,mem_cons];by_cases he:j=a;·simp_all
  ·simp_all
theorem CJ{ls:List Int}{m:List Bool}:nR (ls++[a]) m=Qt (nR ls m) a true:=by simp[nR]
theorem jC[Inhabited α]{l:List α}(h:j<l.length):l.take (j+1)=l.take j++[P9 l (j:Int)]:=by grind [take_add_one,P9]
theorem qK[Inhabited α]{l:List α}(h:j<l.length):P9 l (j:Int)∈l:=by grind [P9]
theorem OG[Inhabited α]{l:List α}{x:α}(h:x∈l):∃j:Nat,j<l.length/\P9 l (j:Int)=x:=by grind [List.mem_iff_getElem,P9]
def CE(f:GFormula)(i:Nat)(m:List Bool):List Bool:=if P9 m (f.Y+i)=true then nR (P9 f.N (i:Int)).Z m else m
def cU(f:GFormula):Nat->List Bool
 | 0=>Qt (bA (f.Y+(f.N.length:Int)) false) f.A true
 | k+1=>CE f (f.N.length-1-k) (cU f k)
section
variable{f:GFormula}
theorem iT(g:FG f):∀k,((cU f k).length:Int)=f.Y+f.N.length
 | 0=>by have:=g.v0;rw[cU,ck,oQ om]
 | k+1=>by
  rw[cU,CE];split;·rw[sY];exact iT g k
  ·exact iT g k
theorem qy(g:FG f)(hi:i<f.N.length):∀a∈(P9 f.N (i:Int)).Z,0<=a/\a<f.Y+i:=λa ha=>by obtain⟨j,hj,rfl⟩:=OG ha;exact(dq (g.node i hi)).arg j hj
structure Below(f:GFormula)(k:Nat)(m:List Bool):Prop where
 top:P9 m f.A=true
 cl:∀i:Nat,f.N.length-k<=i->i<f.N.length->P9 m (f.Y+i)=true->∀a∈(P9 f.N (i:Int)).Z,P9 m a=true
theorem du(g:FG f):∀k,k<=f.N.length->Below f k (cU f k)
 | 0,_=>by have:=g.v0;have:=g.Sd;have:=g.top;have hl:((bA (f.Y+(f.N.length:Int)) false).length:Int)=f.Y+f.N.length:=oQ om;refine⟨?_,λi h1 h2=>om⟩;rw[cU,oY om om,if_pos rfl]
 | k+1,hk=>by
  have ih:=du g k om;have hl:=iT g k;have v0:=g.v0;have hi:f.N.length-1-k<f.N.length:=om;have T7:=qy g hi;have ad3:∀a∈(P9 f.N ((f.N.length-1-k:Nat):Int)).Z,0<=a/\a<(cU f k).length:=λa ha=>by have:=T7 a ha;omega
  rw[cU,CE];split
  ·rename_i hm;refine⟨(uO _ _ ad3 g.Sd).2 (.inl ih.top),λi h1 h2 h3 a ha=>?_⟩;have ha0:=qy g h2 a ha;rw[uO _ _ ad3 om]at h3 ⊢;by_cases he:i=f.N.length-1-k;·subst he;exact .inr ha
   ·rcases h3 with h3|h3;·exact .inl (ih.cl i om h2 h3 a ha)
    ·have:=T7 _ h3;omega
  ·rename_i hm;refine⟨ih.top,λi h1 h2 h3 a ha=>?_⟩;by_cases he:i=f.N.length-1-k;·simp_all
   ·exact ih.cl i om h2 h3 a ha
theorem uG(g:FG f){Q:List Bool->Prop}(hQ:Q (cU f f.N.length)):ia f Q:=by
 have v0:=g.v0;have v24:=g.v24;have n128:=g.n128;have t0:=g.Sd;have tt:=g.top;refine⟨Qo,⟨om,om,om,om⟩,om,Qo,?_⟩;refine⟨λy=>∃k:Nat,k<=f.N.length/\y=((f.N.length:Int)-1-k,cU f k),λy=>(y.1+1).toNat,⟨0,om,by simp[cU]⟩,?_⟩;rintro _ ⟨k,hk,rfl⟩;refine Qb (λhc=>?_) (λhc=>?_)
 ·have ei:(f.N.length:Int)-1-k=((f.N.length-1-k:Nat):Int):=om;have hi:f.N.length-1-k<f.N.length:=om;have hl:=iT g k;have T7:=qy g hi;rw[ei];refine⟨Qo,om,aB (λhm=>⟨om,?_⟩) (λhm=>⟨Qo,⟨k+1,om,?_⟩,by dsimp only;omega⟩)⟩
  ·have ll:=(dq (g.node _ hi)).len;refine gB (n:=(P9 f.N ((f.N.length-1-k:Nat):Int)).Z.length) (λj=>((j:Int),nR ((P9 f.N ((f.N.length-1-k:Nat):Int)).Z.take j) (cU f k))) (λy=>y.1) 0 (λi=>by dsimp only;omega) rfl (λj next hj hn=>?_) (λnext=>?_)
   ·grind [qK,Qb,sY,Qe,jC,CJ]
   ·grind [Qb,Qe,cU,CE]
  ·grind [cU,CE]
 ·grind
theorem xG[Inhabited α]{l:List α}(h:0<=a/\a<=l.length):((fV l a (l.length:Int)).length:Int)=l.length-a/\∀i:Nat,(i:Int)<l.length-a->P9 (fV l a (l.length:Int)) (i:Int)=P9 l (a+i):=by grind [fV,P9]
theorem NH{Q:Int->Int->Option Int->Prop}(ht:Qe f.A)(h1:qw f≠0->Q 0 0 (some (qw f)))(h2:FG f->∀r a,0<=r->(r=0->f.A<f.Y)->Q r a none):ot f Q:=by
 refine eV ht ?_;by_cases h0:qw f=0
 ·have g:=kM.1 h0;have v0:=g.v0;have v24:=g.v24;have n128:=g.n128;have hl:=iT g f.N.length;have hb:=du g f.N.length (Nat.le_refl _);obtain⟨sl,sa⟩:=xG (l:=cU f f.N.length) (a:=f.Y) om;rw[h0];refine aB (λhc=>by cases hc) (λ_=>⟨_,uG g rfl,⟨om,om,om⟩,?_⟩);refine bu (n:=f.N.length) (λi (y:Int×Int×Int)=>(y.2.2=(i:Int)/\0<=y.1/\y.1<=(i:Int)/\0<=y.2.1/\y.2.1<=16*(i:Int))/\(y.1=0->∀k:Nat,k<i->P9 (cU f f.N.length) (f.Y+k)=false)) (λy=>y.2.2) 0 (λi y hy=>by rw[hy.1.1];omega) ⟨by dsimp only;omega,λ_ k hk=>absurd hk om⟩ ?_ ?_
  ·rintro i ⟨nn,aa,x⟩ next hi ⟨⟨hx,a1,a2,a3,a4⟩,hz⟩ hn
   dsimp only at hx a1 a2 a3 a4 hz;subst hx;have ll:=(dq (g.node _ hi)).len;dsimp only;rw[sa i om];refine Qb (λ_=>⟨om,aB (λhm=>⟨Qo,om,Qo,k_ ⟨Qo,hn _ ⟨by dsimp only;omega,λhc=>by dsimp only at hc;omega⟩⟩⟩) (λhm=>⟨Qo,hn _ ⟨by dsimp only;omega,λhc k hk=>?_⟩⟩)⟩) (λhc=>absurd (show(i:Int)<_ by omega) hc);by_cases YF:k<i;·exact hz hc k YF
   ·grind
  ·rintro⟨nn,aa,x⟩ next ⟨⟨hx,a1,a2,a3,a4⟩,hz⟩
   dsimp only at hx a1 a2 a3 a4 hz;subst hx;refine Qb (λhc=>absurd hc om) (λ_=>h2 g nn aa a1 λhr=>?_)
   by_cases hT:f.A<f.Y;·exact hT
   ·have:=hz hr (f.A-f.Y).toNat (by have:=g.top;omega);rw[show f.Y+((f.A-f.Y).toNat:Int)=f.A by omega,hb.top]at this;cases this
 ·grind [yP,aB]
theorem tD{f g:GFormula}{s:Nat}(hV:f.Y=g.Y):∀n,(∀i:Nat,i<n->P9 f.N (i:Int)=P9 g.N (i:Int))->cK f s n=cK g s n
 | 0,_=>by rw[cK,cK,hV]
 | n+1,h=>by rw[cK,cK,tD hV n (λi hi=>h i om),h n om]
theorem Aw{f g:GFormula}(hV:f.Y=g.Y)(h:P9 f.N (i:Int)=P9 g.N (i:Int)):jO f i=jO g i:=by unfold jO;rw[h,hV]
theorem xt{β:Type}[Inhabited α][Inhabited β]{l:List α}{g:α->β}(h:j<l.length):P9 (l.map g) (j:Int)=g (P9 l (j:Int)):=by grind [P9]
theorem NE{Q:GFormula->Option Int->Prop}(g:FG f)(hQ:∀x,FG x->x.Y=f.Y->(∀s,FV x s=FV f s)->(∀n:Nat,n<x.N.length->∃k:Nat,k<f.N.length/\∀s,P9 (cK x s x.N.length) (f.Y+n)=P9 (cK f s f.N.length) (f.Y+k))->Q x none):gD f Q:=by
 have v0:=g.v0;have v24:=g.v24;have n128:=g.n128;have t0:=g.Sd;have tt:=g.top;have hl:=iT g f.N.length;have hb:=du g f.N.length (Nat.le_refl _);obtain⟨sl,sa⟩:=xG (l:=cU f f.N.length) (a:=f.Y) om;have Vj:((bA (f.Y+(f.N.length:Int)) (0:Int)).length:Int)=f.Y+f.N.length:=oQ om;refine eV Qo ?_;rw[kM.2 g];refine aB (λhc=>by cases hc) (λ_=>⟨Qo,⟨om,om,om,om⟩,?_⟩)
 refine bu (n:=f.Y.toNat) (λi (y:Int×List Int)=>(y.1=(i:Int)/\(y.2.length:Int)=f.Y+f.N.length)/\∀v:Nat,v<i->P9 y.2 (v:Int)=(v:Int)) (λy=>y.1) 0 (λi y hy=>by rw[hy.1.1];omega) ⟨⟨rfl,Vj⟩,λv hv=>absurd hv om⟩ ?_ ?_
 ·rintro i ⟨x,to⟩ next hi ⟨⟨hx,Tk⟩,hI⟩ hn
  dsimp only at hx Tk hI;subst hx;refine Qb (λ_=>⟨om,Qo,hn _ ⟨⟨by dsimp only;omega,by dsimp only;rw[ck];exact Tk⟩,λv hv=>?_⟩⟩) (λhc=>absurd (show(i:Int)<f.Y by omega) hc);dsimp only;rw[dO om];split;·rename_i he;rw[he]
  ·exact hI v om
 rintro⟨x,to0⟩ next ⟨⟨hx,Tk⟩,hI⟩
 dsimp only at hx Tk hI;subst hx;refine Qb (λhc=>absurd hc om) (λ_=>⟨_,uG g rfl,⟨om,om,om⟩,?_⟩)
 refine bu (n:=f.N.length) (λi (y:Int×List Int×List QN)=>(y.1=(i:Int)/\(y.2.1.length:Int)=f.Y+f.N.length/\y.2.2.length<=i)/\(∀v:Nat,(v:Int)<f.Y->P9 y.2.1 (v:Int)=(v:Int))/\(∀n:Nat,n<y.2.2.length->jO ⟨f.Y,y.2.2,0⟩ n=0/\∃k:Nat,k<f.N.length/\∀s,P9 (cK ⟨f.Y,y.2.2,0⟩ s y.2.2.length) (f.Y+n)=P9 (cK f s f.N.length) (f.Y+k))/\
   ∀k:Nat,k<i->P9 (cU f f.N.length) (f.Y+k)=true->(0<=P9 y.2.1 (f.Y+k)/\P9 y.2.1 (f.Y+k)<f.Y+y.2.2.length)/\∀s,P9 (cK ⟨f.Y,y.2.2,0⟩ s y.2.2.length) (P9 y.2.1 (f.Y+k))=P9 (cK f s f.N.length) (f.Y+k)) (λy=>y.1) 0
  (λi y hy=>by rw[hy.1.1];omega) ⟨⟨rfl,Tk,by simp⟩,λv hv=>hI v om,λn hn=>by simp at hn,λk hk=>absurd hk om⟩ ?_ ?_
 ·rintro i ⟨x,to,x2⟩ Qd hi ⟨⟨hx,SS,V7⟩,hV,hN,hK⟩ hn;dsimp only at hx SS V7 hV hN hK;subst hx;have ng:=dq (g.node i hi);have T7:=qy g hi;dsimp only;rw[sa i om];refine Qb (λ_=>⟨om,aB (λhm=>?_) (λhm=>⟨om,?_⟩)⟩) (λhc=>absurd (show(i:Int)<_ by omega) hc)
  ·have Uo:P9 (cU f f.N.length) (f.Y+i)=false:=by simpa using hm
   refine⟨Qo,hn _ ⟨⟨by dsimp only;omega,SS,by dsimp only;omega⟩,hV,hN,λk hk V9=>?_⟩⟩;by_cases YF:k<i;·exact hK k YF V9
   ·grind
  ·have Uo:P9 (cU f f.N.length) (f.Y+i)=true:=by simpa using hm
   have ll:=ng.len;have UE:=hb.cl i om hi Uo;have ael:∀a∈(P9 f.N (i:Int)).Z,(0<=P9 to a/\P9 to a<f.Y+x2.length)/\∀s,P9 (cK ⟨f.Y,x2,0⟩ s x2.length) (P9 to a)=P9 (cK f s i) a:=λa ha=>by
    have h3:=T7 a ha;by_cases hv:a<f.Y
    ·obtain⟨v,rfl⟩:∃v:Nat,a=v:=⟨a.toNat,om⟩;rw[hV v hv];refine⟨om,λs=>?_⟩
     rw[mj (f:=⟨f.Y,x2,0⟩) om hv,mj om hv]
    ·obtain⟨k,rfl⟩:∃k:Nat,a=f.Y+k:=⟨(a-f.Y).toNat,om⟩;obtain⟨q1,q2⟩:=hK k om (UE _ ha);refine⟨q1,λs=>?_⟩
     rw[q2,iv (m:=i) om om f.N.length om]
   refine gB (n:=(P9 f.N (i:Int)).Z.length) (λj=>((j:Int),((P9 f.N (i:Int)).Z.take j).map λa=>P9 to a)) (λy=>y.1) 0 (λj=>by dsimp only;omega) rfl (λj next3 hj WC=>?_) (λnext3=>?_)
   ·have h3:=T7 _ (qK hj);dsimp only;refine Qb (λ_=>⟨om,om,by rw[gC,length_map,length_take];omega,Qo,?_⟩) (λhc=>absurd (show(j:Int)<_ by omega) hc);rw[jC hj,map_append]at WC;exact WC
   ·refine Qb (λhc=>absurd hc om) (λ_=>?_)
    dsimp only;rw[take_length];generalize hxn:(⟨(P9 f.N (i:Int)).U,(P9 f.N (i:Int)).K,(P9 f.N (i:Int)).Z.map λa=>P9 to a⟩:QN)=xn;have R9:P9 (x2++[xn]) (x2.length:Int)=xn:=lR;have hold:∀n:Nat,n<x2.length->P9 (x2++[xn]) (n:Int)=P9 x2 (n:Int):=λn hn=>mE om om;have hvo:∀s n,n<=x2.length->cK ⟨f.Y,x2++[xn],0⟩ s n=cK ⟨f.Y,x2,0⟩ s n:=λs n hn=>tD (f:=⟨f.Y,x2++[xn],0⟩) (g:=⟨f.Y,x2,0⟩) rfl n λk hk=>hold k om;have hval:∀s,P9 (cK ⟨f.Y,x2++[xn],0⟩ s (x2.length+1)) (f.Y+x2.length)=P9 (cK f s f.N.length) (f.Y+i):=λs=>by
     have e:=nE (f:=⟨f.Y,x2++[xn],0⟩) (s:=s) (i:=x2.length) v0 Qy;rw[show(⟨f.Y,x2++[xn],0⟩:GFormula).N.length=x2.length+1 from gC]at e;rw[e,nE v0 hi];show kY (P9 (x2++[xn]) (x2.length:Int)) _=_;rw[R9,hvo s _ (Nat.le_refl _),<-hxn];unfold kY;have ec:TM ⟨(P9 f.N (i:Int)).U,(P9 f.N (i:Int)).K,(P9 f.N (i:Int)).Z.map λa=>P9 to a⟩ (cK ⟨f.Y,x2,0⟩ s x2.length) (P9 f.N (i:Int)).Z.length=TM (P9 f.N (i:Int)) (cK f s i) (P9 f.N (i:Int)).Z.length:=by
      have:∀j,j<=(P9 f.N (i:Int)).Z.length->TM ⟨(P9 f.N (i:Int)).U,(P9 f.N (i:Int)).K,(P9 f.N (i:Int)).Z.map λa=>P9 to a⟩ (cK ⟨f.Y,x2,0⟩ s x2.length) j=TM (P9 f.N (i:Int)) (cK f s i) j:=λj=>by
       induction j with
       | zero=>intro _;rfl
       | succ j ih=>grind [TM,xt,qK]
      exact this _ (Nat.le_refl _)
     simp only[length_map];rw[ec];unfold gM;simp only[length_map]
    refine⟨Qo,Qo,om,by rw[gC];omega,Qo,hn _ ⟨⟨by dsimp only;omega,by dsimp only;rw[ck];exact SS,by dsimp only;rw[gC];omega⟩,λv hv=>?_,λn TL=>?_,λk hk V9=>?_⟩⟩;·dsimp only;rw[oY om om,if_neg om];exact hV v hv
    ·dsimp only at TL ⊢;rw[gC]at TL;by_cases QH:n<x2.length
     ·rw[Aw (f:=⟨f.Y,x2++[xn],0⟩) (g:=⟨f.Y,x2,0⟩) rfl (hold n QH),gC];obtain⟨q1,k,q2,q3⟩:=hN n QH;refine⟨q1,k,q2,λs=>?_⟩
      rw[iv (m:=x2.length) om (by show _<(f.Y.toNat:Int)+_;omega) (x2.length+1) om,hvo s _ (Nat.le_refl _)];exact q3 s
     ·obtain rfl:n=x2.length:=om;refine⟨?_,i,hi,λs=>by rw[gC];exact hval s⟩;have h0:=g.node i hi;unfold jO at h0 ⊢;simp only[R9];rw[<-hxn];simp only[length_map];split at h0;·cases h0
      rename_i c1;split at h0;·cases h0
      rename_i c2;split at h0;·cases h0
      rw[if_neg c1,if_neg c2,if_neg];·exact h0
      ·grind [xt,qK]
    ·dsimp only;rw[oY om om,gC];by_cases hki:k=i;·grind
     ·rw[if_neg om];obtain⟨q1,q2⟩:=hK k om V9;refine⟨om,λs=>?_⟩
      rw[iv (m:=x2.length) q1.1 (by show _<(f.Y.toNat:Int)+_;omega) (x2.length+1) om,hvo s _ (Nat.le_refl _)];exact q2 s
 ·rintro⟨x,to,x2⟩ Qd ⟨⟨hx,SS,V7⟩,hV,hN,hK⟩;dsimp only at hx SS V7 hV hN hK;subst hx;have hT:(0<=P9 to f.A/\P9 to f.A<f.Y+x2.length)/\∀s,P9 (cK ⟨f.Y,x2,0⟩ s x2.length) (P9 to f.A)=P9 (cK f s f.N.length) f.A:=by
   by_cases hv:f.A<f.Y
   ·obtain⟨v,hv'⟩:∃v:Nat,f.A=v:=⟨f.A.toNat,om⟩;rw[hv']at hv ⊢;rw[hV v hv];refine⟨om,λs=>?_⟩
    rw[mj (f:=⟨f.Y,x2,0⟩) om hv,mj om hv]
   ·obtain⟨k,hk⟩:∃k:Nat,f.A=f.Y+k:=⟨(f.A-f.Y).toNat,om⟩;have hbt:=hb.top;rw[hk]at hbt ⊢;exact hK k om hbt
  refine Qb (λhc=>absurd hc om) (λ_=>⟨om,hQ _ ⟨v0,v24,by show x2.length<=128;omega,λn hn=>?_,hT.1.1,hT.1.2⟩ rfl (λs=>?_) λn hn=>?_⟩);·grind [Aw]
  ·show P9 (cK ⟨f.Y,x2,P9 to f.A⟩ s x2.length) (P9 to f.A)=_;rw[tD (f:=⟨f.Y,x2,P9 to f.A⟩) (g:=⟨f.Y,x2,0⟩) rfl _ (λ_ _=>rfl),hT.2 s];rfl
  ·obtain⟨_,k,q2,q3⟩:=hN n hn;refine⟨k,q2,λs=>?_⟩
   show P9 (cK ⟨f.Y,x2,P9 to f.A⟩ s x2.length) _=_;rw[tD (f:=⟨f.Y,x2,P9 to f.A⟩) (g:=⟨f.Y,x2,0⟩) rfl _ (λ_ _=>rfl)];exact q3 s
end
theorem AR[Inhabited α]{l:List α}(h:i<l.length):P9 l (i:Int)=l[i]:=by unfold P9;rw[List.getD_eq_getElem?_getD,toNat_natCast,List.getElem?_eq_getElem h];rfl
def zY(lt:Int->Int->Bool)(x:Int):List Int->List Int
 | []=>[x]
 | b::l=>if lt x b then b::zY lt x l else x::b::l
def BQ(lt:Int->Int->Bool)(A:List Int)(x:Int):List Int:=(zY lt x A.reverse).reverse
def jQ(lt:Int->Int->Bool)(l:List Int):List Int:=l.foldl (BQ lt) []
section
variable{lt:Int->Int->Bool}
theorem FP{x:Int}:∀(C B:List Int),(∀c∈C,lt x c=true)->(∀b B',B=b::B'->lt x b=false)->zY lt x (C++B)=C++x::B
 | [],[],_,_=>rfl
 | [],b::B,_,h=>by rw[List.nil_append,zY,if_neg (by rw[h b B rfl];simp)];rfl
 | c::C,B,h,h'=>by rw[List.cons_append,zY,if_pos (h c Qy),FP C B (λa ha=>h a (by simp[ha])) h'];rfl
theorem KZ{x:Int}{B C:List Int}(h:∀c∈C,lt x c=true)(h':∀b B',B=B'++[b]->lt x b=false):BQ lt (B++C) x=B++x::C:=by
 unfold BQ;rw[List.reverse_append,FP C.reverse B.reverse (λc hc=>h c (by simpa using hc)) (λb B' hb=>h' b B'.reverse (by
  have:=congrArg List.reverse hb;simpa using this))]
 simp
theorem AE{x:Int}:∀l:List Int,(zY lt x l).Perm (x::l)
 | []=>List.Perm.refl _
 | b::l=>by
  rw[zY];split;·exact((AE l).cons b).trans (List.Perm.swap x b l)
  ·exact List.Perm.refl _
theorem GL{x:Int}{A:List Int}:(BQ lt A x).Perm (A++[x]):=by unfold BQ;refine(List.reverse_perm _).trans ((AE _).trans ?_);refine((List.reverse_perm A).cons x).trans ?_;exact(List.perm_append_singleton x A).symm
theorem qq{l:List Int}{x:Int}:jQ lt (l++[x])=BQ lt (jQ lt l) x:=by simp[jQ]
theorem qs:∀l:List Int,(jQ lt l).Perm l:=rR (List.Perm.refl _) λl x ih=>by rw[qq];exact GL.trans (ih.append_right [x])
theorem rY{l:List Int}:(jQ lt l).length=l.length:=(qs l).length_eq
theorem De{lt':Int->Int->Bool}:∀l:List Int,(∀x∈l,∀y∈l,lt x y=lt' x y)->jQ lt l=jQ lt' l:=rR (λ_=>rfl) λl x ih h=>by
 rw[qq,qq,ih (λa ha b hb=>h a (by simp[ha]) b (by simp[hb]))];have hm:∀y∈(jQ lt' l).reverse,y∈l:=λy hy=>(qs l).mem_iff.1 (by simpa using hy);unfold BQ;generalize (jQ lt' l).reverse=r at hm;congr 1;induction r with
 | nil=>rfl
 | cons b r ih2=>
  rw[zY,zY,h x Qy b (by simp[hm b Qy]),ih2 (λy hy=>hm y (by simp[hy]))]
end
def Ep(C:Int->Int->(Int->Prop)->Prop)(a b:Int)(data:List Int)(Q:List Int->Prop):Prop:=
 Qe (a+1)/\
 aO (σ:=Int×(List Int)) ((a+1),data) λ⟨i,QA⟩ Qc=>
  af (decide (i<b))
   (aO (σ:=Int×(List Int)) (i,QA) λ⟨j,Qx⟩ Qd=>
    af (decide (a<j))
     (((0:Int)<=j/\j<(Qx.length:Int))/\
     Qe (j-1)/\
     ((0:Int)<=(j-1)/\(j-1)<(Qx.length:Int))/\
     ∃r,(C (P9 Qx j) (P9 Qx (j-1)) λy1=>y1=r)/\
     af (decide (r<0))
      (Qe (j-1)/\
      Qe (j-1)/\
      ((0:Int)<=(j-1)/\(j-1)<(Qx.length:Int))/\
      ((0:Int)<=j/\j<(Qx.length:Int))/\
      ((0:Int)<=j/\j<(Qx.length:Int))/\
      ((0:Int)<=(j-1)/\(j-1)<(Qx.length:Int))/\
      Qe (j-1)/\
      Qd ((j-1),(Qt (Qt Qx j (P9 Qx (j-1))) (j-1) (P9 Qx j))))
      (Qe (i+1)/\
      Qc ((i+1),Qx)))
     (Qe (i+1)/\
     Qc ((i+1),Qx)))
   (Q QA)
theorem Jl[Inhabited α]{B T:List α}{x:α}:P9 (B++x::T) (B.length:Int)=x:=by rw[AR Qy];simp
theorem HQ{B T:List Int}{x:Int}:Qt (Qt (B++b::x::T) ((B.length+1:Nat):Int) b) (B.length:Int) x=B++x::b::T:=by rw[gQ,gQ];rw[List.set_append_right _ _ om,List.set_append_right _ _ om];simp
variable{C:Int->Int->(Int->Prop)->Prop}
theorem GJ{c:Int->Int->Int}{A l D:List Int}{Q:List Int->Prop}(hC:∀x∈l,∀y∈l,∀K:Int->Prop,K (c x y)->C x y K)(hl:A.length+l.length+D.length<=1099511627776)(hQ:Q (A++jQ (λx y=>decide (c x y<0)) l++D)):Ep C (A.length:Int) ((A.length+l.length:Nat):Int) (A++l++D) Q:=by
 generalize QH:(λx y:Int=>decide (c x y<0))=lt at hQ;have adT:∀x y,lt x y=decide (c x y<0):=λx y=>by rw[<-QH]
 refine⟨Qo,?_⟩;match l,hC,hl,hQ with
 | [],_,hl,hQ=>
  refine⟨λy=>y.2=A++[]++D/\y.1=(A.length:Int)+1,λ_=>0,⟨rfl,rfl⟩,?_⟩
  rintro⟨i,data⟩ ⟨h1,h2⟩;dsimp only at h1 h2;subst h1 h2;refine Qb (λhc=>?_) (λ_=>hQ)
  simp only[List.length_nil,Nat.add_zero]at hc;omega
 | z::l',hC,hl,hQ=>
 generalize hL:z::l'=l at hC hl hQ ⊢;have Uh:0<l.length:=by rw[<-hL];simp
 refine bu (n:=l.length-1) (λk y=>y.1=(k:Int)+((A.length:Int)+1)/\y.2=A++jQ lt (l.take (k+1))++(l.drop (k+1)++D)) (λy=>y.1) ((A.length:Int)+1) (λk y hy=>hy.1) ⟨by dsimp only;omega,?_⟩ ?_ ?_;·dsimp only;rw[<-hL];simp[jQ,BQ,zY]
 ·rintro k ⟨i,data⟩ next hk ⟨hi,hd⟩ hn
  dsimp only at hi hd;subst hi hd;have hk1:k+1<l.length:=om;refine Qb (λ_=>?_) (λhc=>absurd (show(k:Int)+((A.length:Int)+1)<((A.length+l.length:Nat):Int)by omega) hc);obtain⟨x,hx⟩:∃x,l[k+1]=x:=⟨_,rfl⟩;have Xj:x∈l:=hx▸getElem_mem hk1;have aec:l.drop (k+1)=x::l.drop (k+2):=by rw[List.drop_eq_getElem_cons hk1,hx]
  have VP:l.take (k+2)=l.take (k+1)++[x]:=by rw[List.take_succ_eq_append_getElem hk1,hx]
  obtain⟨S,hS⟩:∃S,jQ lt (l.take (k+1))=S:=⟨_,rfl⟩;have hSl:S.length=k+1:=by rw[<-hS,rY,length_take];omega
  have hSm:∀y∈S,y∈l:=λy hy=>by rw[<-hS]at hy;exact List.mem_of_mem_take ((qs _).mem_iff.1 hy)
  have UD:jQ lt (l.take (k+1+1))=BQ lt S x:=by rw[show k+1+1=k+2 from rfl,VP,qq,hS]
  rw[UD]at hn;rw[hS,aec];have ad7:∀B E:List Int,B++E=S->A.length+(B.length+(E.length+1))+(l.drop (k+2)).length=A.length+l.length:=λB E hBE=>by
   have:B.length+E.length=k+1:=by rw[<-hSl,<-hBE,length_append]
   rw[List.length_drop];omega
  refine⟨λy=>∃B E,B++E=S/\(∀e∈E,lt x e=true)/\y.1=(A.length:Int)+(B.length:Int)/\y.2=A++B++x::(E++(l.drop (k+2)++D)),λy=>y.1.toNat,⟨S,[],by simp,λe he=>by simp at he,by dsimp only;rw[hSl];omega,by simp⟩,?_⟩;rintro⟨j,data⟩ ⟨B,E,hBE,hE,hj,hd⟩;dsimp only at hj hd;subst hj hd;have hlen:=ad7 B E hBE;have hdl:(A++B++x::(E++(l.drop (k+2)++D))).length=A.length+l.length+D.length:=by simp only[length_append,length_cons]at hlen ⊢;omega
  have fin:(B=[]\/∃b B',B=B'++[b]/\lt x b=false)->Qe ((k:Int)+((A.length:Int)+1)+1)/\next ((k:Int)+((A.length:Int)+1)+1,A++B++x::(E++(l.drop (k+2)++D))):=λhB=>by
   refine⟨Qo,hn _ ⟨by dsimp only;omega,?_⟩⟩;dsimp only;rw[<-hBE,KZ hE (λb B' hb=>by
    rcases hB with rfl|⟨b2,B2,V0,aaW⟩;·simp at hb
    ·rw[V0]at hb;have:=List.append_inj_right' hb rfl;injection this with h1 _;rw[<-h1];exact aaW)]
   simp
  refine Qb (λhc=>?_) (λhc=>?_)
  ·obtain⟨b,B',rfl⟩:∃b B',B=B'++[b]:=⟨B.getLast (by rintro rfl;simp at hc),B.dropLast,(List.dropLast_concat_getLast _).symm⟩;have Zk:b∈l:=hSm b (by rw[<-hBE];simp);have X2:A++(B'++[b])++x::(E++(l.drop (k+2)++D))=(A++B')++b::x::(E++(l.drop (k+2)++D)):=by simp
   have hBl:(B'++[b]).length=B'.length+1:=by simp
   have e1:(A.length:Int)+((B'++[b]).length:Int)=(((A++B').length+1:Nat):Int):=by rw[hBl,length_append];omega
   have e2:(A.length:Int)+((B'++[b]).length:Int)-1=(((A++B').length:Nat):Int):=by rw[e1];omega
   have a1:P9 (A++(B'++[b])++x::(E++(l.drop (k+2)++D))) ((A.length:Int)+((B'++[b]).length:Int))=x:=by
    have:A++(B'++[b])++x::(E++(l.drop (k+2)++D))=((A++B')++[b])++x::(E++(l.drop (k+2)++D)):=by simp
    rw[this,show(A.length:Int)+((B'++[b]).length:Int)=(((A++B'++[b]).length:Nat):Int)by rw[hBl];simp only[length_append,length_singleton];omega,Jl]
   have a2:P9 (A++(B'++[b])++x::(E++(l.drop (k+2)++D))) ((A.length:Int)+((B'++[b]).length:Int)-1)=b:=by rw[X2,e2,Jl]
   have hAB:(A++B').length+1<A.length+l.length+D.length:=by rw[hBl]at hlen;rw[length_append];omega
   refine⟨by rw[hdl,e1];omega,by rw[e2];unfold Qe;omega,by rw[hdl,e2];omega,c x b,by rw[a1,a2];exact hC x Xj b Zk _ rfl,Qb (λhr=>?_) (λhr=>?_)⟩
   ·rw[a1,a2];refine⟨by rw[e2];unfold Qe;omega,by rw[e2];unfold Qe;omega,by rw[hdl,e2];omega,by rw[hdl,e1];omega,by rw[hdl,e1];omega,by rw[hdl,e2];omega,by rw[e2];unfold Qe;omega,⟨B',b::E,by rw[<-hBE];simp,λe he=>?_,by dsimp only;rw[hBl];omega,?_⟩,?_⟩
    ·rcases List.mem_cons.1 he with rfl|he;·rw[adT];exact decide_eq_true hr
     ·exact hE e he
    ·dsimp only;rw[X2,e1,show((((A++B').length+1:Nat):Int)-1)=(((A++B').length:Nat):Int)by omega,HQ];simp
    ·dsimp only;rw[hBl];omega
   ·exact fin (.inr ⟨b,B',rfl,by rw[adT];exact decide_eq_false hr⟩)
  ·exact fin (.inl (by
    have:B.length=0:=om;exact List.eq_nil_of_length_eq_zero this))
 ·rintro⟨i,data⟩ next ⟨hi,hd⟩
  dsimp only at hi hd;subst hi hd;refine Qb (λhc=>absurd hc om) (λ_=>?_)
  rw[show l.length-1+1=l.length by omega,take_length,List.drop_length,List.nil_append];exact hQ
def Oe(C:Int->Int->(Int->Prop)->Prop)(n:Int)(data:List Int)(Q:List Int->Prop):Prop:=aO (σ:=Int×Int×(List Int)) (0,20,data) λ⟨a,b,QA⟩ Qc=>
  af (decide (b<=n))
   (Ep C a b QA λQx=>
   Qx.length=QA.length/\
   Qe (b+20)/\
   Qc (b,(b+20),Qx))
   (Ep C a n QA λRc=>
   Rc.length=QA.length/\
   aO (σ:=Int) 20 λQi Qd=>
    af (decide (Qi<n))
     (Qe (2*Qi)/\
     aO (σ:=Unit) () λ_ _=>
      af (decide ((2*Qi)<=n))
       (Qe (0+Qi)/\
       False)
       (Qe (0+Qi)/\
       af (decide ((0+Qi)<n))
        (False)
        (Qe (Qi*2)/\
        Qd (Qi*2))))
     (Q Rc))
theorem Gj{c:Int->Int->Int}{l:List Int}{Q:List Int->Prop}(hC:∀x∈l,∀y∈l,∀K:Int->Prop,K (c x y)->C x y K)(hl:l.length<20)(hQ:Q (jQ (λx y=>decide (c x y<0)) l)):Oe C (l.length:Int) l Q:=by
 refine⟨λy=>y=(0,20,l),λ_=>0,rfl,?_⟩
 rintro _ rfl;refine Qb (λhc=>om) (λ_=>?_)
 have:=GJ (C:=C) (c:=c) (A:=[]) (D:=[]) (l:=l) (Q:=λRc=>Rc.length=l.length/\aO (σ:=Int) 20 λQi Qd=>
    af (decide (Qi<(l.length:Int)))
     (Qe (2*Qi)/\
     aO (σ:=Unit) () λ_ _=>
      af (decide ((2*Qi)<=(l.length:Int)))
       (Qe (0+Qi)/\
       False)
       (Qe (0+Qi)/\
       af (decide ((0+Qi)<(l.length:Int)))
        (False)
        (Qe (Qi*2)/\
        Qd (Qi*2))))
     (Q Rc)) hC (by simp;omega) (by
  rw[List.nil_append,List.append_nil];refine⟨rY,λy=>y=20,λ_=>0,rfl,?_⟩
  rintro _ rfl;exact Qb (λhc=>om) (λ_=>hQ))
 simpa using this
structure Bij(n:Nat)(p a:Nat->Nat):Prop where
 lt:∀v,v<n->p v<n
 lt':∀k,k<n->a k<n
 ap:∀v,v<n->a (p v)=v
 pa:∀k,k<n->p (a k)=k
theorem Bij.inj{p a:Nat->Nat}(h:Bij n p a)(hu:u<n)(hv:v<n)(he:p u=p v):u=v:=by rw[<-h.ap u hu,he,h.ap v hv]
def ind(b:Prop)[Decidable b]:Nat:=if b then 1 else 0
variable{σ:Type}{x0:σ}
theorem KJ(st:Nat->σ)(ix:σ->Int)(c:Int)(X_:∀i,i<=n->ix (st i)=i+c){body:σ->(σ->Prop)->Prop}(h0:x0=st 0)(hs:∀i (next:σ->Prop),i<n->next (st (i+1))->body (st i) next)(he:∀(next:σ->Prop),body (st n) next):aO x0 body:=by
 refine⟨λy=>∃i,i<=n/\y=st i,λy=>n-(ix y-c).toNat,⟨0,Nat.zero_le _,h0⟩,?_⟩;rintro _ ⟨i,hi,rfl⟩;rcases lt_or_ge i n with h|h;·refine hs i _ h ⟨⟨i+1,h,rfl⟩,?_⟩;have h1:=X_ i hi;have h2:=X_ (i+1) h;dsimp only;rw[h1,h2];omega
 ·obtain rfl:i=n:=om;exact he _
theorem Ev{τ:Type}(Inv:Nat->σ->Prop)(ix:σ->Int)(c:Int)(X_:∀i y,Inv i y->ix y=i+c){B:τ->σ->(σ->Prop)->Prop}(h0:Inv 0 x0)(hs:∀i x,i<n->Inv i x->∃y,Inv (i+1) y/\∀(Q:τ) (next:σ->Prop),next y->B Q x next):∃y,Inv n y/\∀Q:τ,(∀next,B Q y next)->aO x0 (B Q):=by
 have key:∀k,k<=n->∃st:Nat->σ,st 0=x0/\(∀i,i<=k->Inv i (st i))/\∀i,i<k->∀(Q:τ) (next:σ->Prop),next (st (i+1))->B Q (st i) next:=λk=>by
  induction k with
  | zero=>exact λ_=>⟨λ_=>x0,rfl,λi hi=>(by obtain rfl:i=0:=om;exact h0),λi hi=>absurd hi om⟩
  | succ k ih=>
   intro hk;obtain⟨st,a,b,d⟩:=ih om;obtain⟨y,hy,w⟩:=hs k (st k) om (b k (Nat.le_refl _));refine⟨λi=>if i<=k then st i else y,by simp[a],λi hi=>?_,λi hi Q next hn=>?_⟩
   ·by_cases h1:i<=k;·simp only[h1,if_true];exact b i h1
    ·obtain rfl:i=k+1:=om;simp only[h1,if_false];exact hy
   ·by_cases h1:i=k;·subst h1;simp only[Nat.le_refl,if_true];simp only[show ¬i+1<=i by omega,if_false]at hn;exact w Q next hn
    ·simp only[show i<=k by omega,if_true];simp only[show i+1<=k by omega,if_true]at hn;exact d i om Q next hn
 obtain⟨st,a,b,d⟩:=key n (Nat.le_refl _);exact⟨st n,b n (Nat.le_refl _),λQ he=>KJ st ix c (λi hi=>X_ i _ (b i hi)) a.symm (λi next hi hn=>d i hi Q next hn) he⟩
def Lp(M:Int->Int->List Int->List Int->List P'->Qa Int->Qa Int->(List P'->Qa Int->Qa Int->Int->Prop)->Prop)(g:Bool->Bool->Bool):Prop:=
 ∀ {o place:List Int} {nodes:List P'} {unique memo:Qa Int},TS o place nodes unique memo->o.length<=24->nodes.length<=1099478073344->∀ {a b:Int},Vd nodes a->Vd nodes b->
  ∃Qm Qq QE r,After o place nodes Qm Qq QE r (λσ=>g (dn nodes a σ) (dn nodes b σ)) 33554432/\
   ∀Q:List P'->Qa Int->Qa Int->Int->Prop,Q Qm Qq QE r->M a b o place nodes unique memo Q
theorem Ks:Lp eF (λx y=>x&&y):=by intro o place nodes unique memo h hn hb a b ha Sq;have h1:=vD hn;obtain⟨n1,u1,m1,r,ha,w⟩:=Pf h om ha Sq;exact⟨n1,u1,m1,r,ha.mono om,w⟩
theorem MQ:Lp eQ (λx y=>x||y):=by intro o place nodes unique memo h hn hb a b ha Sq;have h1:=vD hn;obtain⟨n1,u1,m1,r,ha,w⟩:=P7 h om ha Sq;exact⟨n1,u1,m1,r,ha.mono om,w⟩
theorem Kr:Lp eB (λx y=>x != y):=by intro o place nodes unique memo h hn hb a b ha Sq;have h1:=vD hn;obtain⟨n1,u1,m1,r,ha,w⟩:=Pc h om ha Sq;exact⟨n1,u1,m1,r,ha.mono om,w⟩
def OE(M:Int->Int->List Int->List Int->List P'->Qa Int->Qa Int->(List P'->Qa Int->Qa Int->Int->Prop)->Prop)(refs:List Int)(first:Int)(order place:List Int)(nodes:List P')(unique memo:Qa Int)(Q:List P'->Qa Int->Qa Int->Int->Prop):Prop:=aO (σ:=Int×Int×(List P')×(Qa Int)×(Qa Int)) (first,0,nodes,unique,memo) λ⟨Rs,x,x1,x2,x3⟩ Qc=>
  af (decide (x<(refs.length:Int)))
   (((0:Int)<=x/\x<(refs.length:Int))/\
   M Rs (P9 refs x) order place x1 x2 x3 λu u1 u2 R6=>
   Qe (x+1)/\
   Qc (R6,(x+1),u,u1,u2))
   (Q x1 x2 x3 Rs)
def ue(g:Bool->Bool->Bool)(c:Bool)(b:Nat->Bool):Nat->Bool
 | 0=>c
 | i+1=>g (ue g c b i) (b i)
variable{refs:List Int}
section
variable{o place:List Int}{nodes:List P'}{unique memo:Qa Int}
theorem Eo{M:Int->Int->List Int->List Int->List P'->Qa Int->Qa Int->(List P'->Qa Int->Qa Int->Int->Prop)->Prop}{g:Bool->Bool->Bool}(hM:Lp M g)(h:TS o place nodes unique memo)(hn:o.length<=24){first:Int}{c:Bool}(hl:refs.length<=16)(hb:nodes.length<=549755813888)(hf:Vd nodes first)(hc:dn nodes first=λ_=>c)(hr:∀j:Nat,j<refs.length->Vd nodes (P9 refs (j:Int))) :
  ∃Qm Qq QE r,After o place nodes Qm Qq QE r (λσ=>ue g c (λj=>dn nodes (P9 refs (j:Int)) σ) refs.length) 4294967296/\
   ∀Q:List P'->Qa Int->Qa Int->Int->Prop,Q Qm Qq QE r->OE M refs first o place nodes unique memo Q:=by
 obtain⟨⟨r,x,n1,u1,m1⟩,⟨⟨hx,hT⟩,hP,hV,hD,hL⟩,w⟩:=Ev (τ:=List P'->Qa Int->Qa Int->Int->Prop) (n:=refs.length) (x0:=(first,0,nodes,unique,memo))
  (λi (y:Int×Int×(List P')×(Qa Int)×(Qa Int))=>(y.2.1=(i:Int)/\TS o place y.2.2.1 y.2.2.2.1 y.2.2.2.2)/\RA nodes y.2.2.1/\Vd y.2.2.1 y.1/\dn y.2.2.1 y.1=(λσ=>ue g c (λj=>dn nodes (P9 refs (j:Int)) σ) i)/\y.2.2.1.length<=nodes.length+33554432*i)
  (λy=>y.2.1) 0 (λi y hy=>by rw[hy.1.1];omega)
  (B:=λQ=>λ⟨Rs,x,x1,x2,x3⟩ Qc=>
  af (decide (x<(refs.length:Int)))
   (((0:Int)<=x/\x<(refs.length:Int))/\
   M Rs (P9 refs x) o place x1 x2 x3 λu u1 u2 R6=>
   Qe (x+1)/\
   Qc (R6,(x+1),u,u1,u2))
   (Q x1 x2 x3 Rs))
  ⟨⟨rfl,h⟩,RA.refl _,hf,hc,by dsimp only;omega⟩ (by
   rintro i ⟨r,x,n1,u1,m1⟩ hi ⟨⟨hx,hT⟩,hP,hV,hD,hL⟩;dsimp only at hx hT hP hV hD hL;subst hx;have Z3:=hr i hi;have W4:i<16:=lt_of_lt_of_le hi hl;have hL2:n1.length<=550292684800:=Nat.le_trans hL om;obtain⟨n2,u2,m2,r2,a2,w2⟩:=hM hT hn (Nat.le_trans hL2 (by decide)) hV (Z3.pre hP);have l2:=a2.le;refine⟨(r2,(i:Int)+1,n2,u2,m2),⟨⟨by dsimp only;omega,a2.ts⟩,hP.trans a2.pre,a2.vd,?_,Nat.le_trans l2 om⟩,λQ next hn=>Qb (λ_=>⟨om,w2 _ ⟨Qo,hn⟩⟩) (λhc=>absurd (show(i:Int)<refs.length by omega) hc)⟩;dsimp only;rw[a2.dn,hD,cG Z3 hP];rfl)
 dsimp only at hx hT hP hV hD hL;subst hx;exact⟨n1,u1,m1,r,⟨hT,hP,hV,hD,Nat.le_trans hL om⟩,λQ hQ=>w Q λnext=>Qb (λhc=>absurd hc om) (λ_=>hQ)⟩
def mC(b:Nat->Bool):Nat->Nat
 | 0=>0
 | i+1=>mC b i+(if b i=true then 1 else 0)
theorem FZ{b:Nat->Bool}:∀i,mC b i<=i
 | 0=>Nat.le_refl _
 | i+1=>by have:=FZ (b:=b) i;rw[mC];split<;>omega
theorem Di{b:Nat->Bool}:∀i,ue (λx y=>x&&y) true b i=decide (mC b i=i)
 | 0=>rfl
 | i+1=>by
  have:=FZ (b:=b) i;rw[ue,Di i,mC];cases hb:b i;·rw[Bool.and_false,if_neg Qy];exact(decide_eq_false om).symm
  ·rw[Bool.and_true,if_pos rfl];exact decide_eq_decide.2 om
theorem FR{b:Nat->Bool}:∀i,ue (λx y=>x||y) false b i=decide (0<mC b i)
 | 0=>rfl
 | i+1=>by
  rw[ue,FR i,mC];cases hb:b i;·rw[Bool.or_false,if_neg Qy];rfl
  ·rw[Bool.or_true,if_pos rfl];exact(decide_eq_true om).symm
theorem Dh{b:Nat->Bool}:∀i,ue (λx y=>x != y) false b i=decide (mC b i%2=1)
 | 0=>rfl
 | i+1=>by
  rw[ue,Dh i,mC];cases hb:b i;·rw[if_neg Qy,Nat.add_zero];simp
  ·rw[if_pos rfl];rcases Nat.mod_two_eq_zero_or_one (mC b i)with h1|h1;·rw[decide_eq_false om,decide_eq_true om];rfl
   ·rw[decide_eq_true h1,decide_eq_false om];rfl
end
section
variable{N:List P'}
structure aiw(n:Nat)(c:Q3):Prop where
 yes:0<=c.H/\c.H.toNat<2^n
 no:0<=c.No/\c.No.toNat<2^n
 Yn:c.H.toNat &&& c.No.toNat=0
end
section
variable{o:List Int}{f:R7->Bool}
end
theorem Dp{x:QN}{v:List Bool}:∀j,TM x v j=mC (λk=>P9 v (P9 x.Z (k:Int))) j
 | 0=>rfl
 | j+1=>by rw[TM,mC,Dp j]
theorem yS{b c:Nat->Bool}:∀j,(∀k,k<j->b k=c k)->mC b j=mC c j
 | 0,_=>rfl
 | j+1,h=>by rw[mC,mC,yS j (λk hk=>h k om),h j om]
section
variable{o place:List Int}{nodes:List P'}{unique memo:Qa Int}
structure Yr(nodes:List P')(need:List Int)(k lo:Nat)(a b:R7->Nat):Prop where
 len:need.length=k+1
 vd:∀m:Nat,m<=k->Vd nodes (P9 need (m:Int))
 dn:∀m:Nat,m<=k->dn nodes (P9 need (m:Int))=λσ=>decide (m<=(if m<=lo then a σ else b σ))
theorem GE{need:List Int}{lo:Nat}{a b:R7->Nat}{c:R7->Bool}(h:Yr nodes need k (lo+1) a b)(Sr:lo+1<=k)(hp:RA nodes Qm)(hv:Vd Qm r)(Xp:∀σ,b σ=a σ+(if c σ=true then 1 else 0))(hd:dn Qm r=λσ=>bif c σ then dn nodes (P9 need (lo:Int)) σ else dn nodes (P9 need ((lo+1:Nat):Int)) σ):Yr Qm (Qt need ((lo+1:Nat):Int) r) k lo a b:=by
 have hl:=h.len;refine⟨by rw[ck];exact hl,λm hm=>?_,λm hm=>?_⟩
 ·rw[dO om];split;·exact hv
  ·exact(h.vd m hm).pre hp
 ·rw[dO om];by_cases he:m=lo+1
  ·subst he;rw[if_pos rfl,hd,h.dn lo om,h.dn (lo+1) hm];funext σ;dsimp only;rw[if_pos (by omega:lo<=lo+1),if_pos (Nat.le_refl (lo+1)),if_neg (by omega:¬lo+1<=lo),Xp];cases c σ;·simp
   ·simp
  ·rw[if_neg he,cG (h.vd m hm) hp,h.dn m hm];funext σ;by_cases h1:m<=lo;·rw[if_pos om,if_pos h1]
   ·rw[if_neg om,if_neg h1]
theorem Mo(h:TS o place nodes unique memo)(hn:o.length<=24)(hk:k<=16)(hl:refs.length<=16)(hb:nodes.length<=549755813888)(hr:∀j:Nat,j<refs.length->Vd nodes (P9 refs (j:Int))) :
  ∃Qm Qq QE r,After o place nodes Qm Qq QE r (λσ=>decide (k<=mC (λj=>dn nodes (P9 refs (j:Int)) σ) refs.length)) 4294967296/\
   ∀Q:List P'->Qa Int->Qa Int->Int->Prop,Q Qm Qq QE r->kF refs (k:Int) o place nodes unique memo Q:=by
 have w12:=vD hn;have Vj:((bA ((k:Int)+1) (0:Int)).length:Int)=k+1:=oQ om;have start:Yr nodes (Qt (bA ((k:Int)+1) 0) 0 1) k k (λσ=>mC (λj=>dn nodes (P9 refs (j:Int)) σ) 0) (λσ=>mC (λj=>dn nodes (P9 refs (j:Int)) σ) 0):=by
  have e:∀m:Nat,m<=k->P9 (Qt (bA ((k:Int)+1) (0:Int)) 0 1) (m:Int)=if m=0 then 1 else 0:=λm hm=>by
   have:=dO (l:=bA ((k:Int)+1) (0:Int)) (i:=0) (x:=1) (j:=m) om;rw[show((0:Nat):Int)=0 from rfl]at this;rw[this];by_cases h0:m=0;·rw[if_pos h0,if_pos h0]
   ·rw[if_neg h0,if_neg h0,BC om]
  refine⟨by rw[ck];omega,λm hm=>?_,λm hm=>?_⟩
  ·rw[e m hm];split;·exact YZ
   ·exact Y0
  ·rw[e m hm];by_cases h0:m=0;·subst h0;rw[if_pos rfl,W9];rfl
   ·rw[if_neg h0,W_];funext σ;simp[mC,h0]
 obtain⟨⟨x,need,n1,u1,m1⟩,⟨⟨hx,hT⟩,hP,hN,hL⟩,w⟩:=Ev (τ:=List P'->Qa Int->Qa Int->Int->Prop) (n:=refs.length) (x0:=((0:Int),Qt (bA ((k:Int)+1) 0) 0 1,nodes,unique,memo))
  (λi (y:Int×List Int×(List P')×(Qa Int)×(Qa Int))=>(y.1=(i:Int)/\TS o place y.2.2.1 y.2.2.2.1 y.2.2.2.2)/\RA nodes y.2.2.1/\Yr y.2.2.1 y.2.1 k k (λσ=>mC (λj=>dn nodes (P9 refs (j:Int)) σ) i) (λσ=>mC (λj=>dn nodes (P9 refs (j:Int)) σ) i)/\y.2.2.1.length<=nodes.length+268435456*i)
  (λy=>y.1) 0 (λi y hy=>by rw[hy.1.1];omega)
  (B:=λQ=>λ⟨x,need,x1,x2,x3⟩ Qc=>
  af (decide (x<(refs.length:Int)))
   (((0:Int)<=x/\x<(refs.length:Int))/\
   aO (σ:=Int×(List Int)×(List P')×(Qa Int)×(Qa Int)) ((k:Int),need,x1,x2,x3) λ⟨j,Rb,x4,x5,x6⟩ Qd=>
    af (decide (0<j))
     (Qe (j-1)/\
     ((0:Int)<=(j-1)/\(j-1)<(Rb.length:Int))/\
     ((0:Int)<=j/\j<(Rb.length:Int))/\
     ∃u u1 u2 r,(∃fu,az fu (P9 refs x) (P9 Rb (j-1)) (P9 Rb j) o place x4 x5 x6 λy1 y2 y3 y4=>y1=u/\y2=u1/\y3=u2/\y4=r)/\
     ((0:Int)<=j/\j<(Rb.length:Int))/\
     Qe (j-1)/\
     Qd ((j-1),(Qt Rb j r),u,u1,u2))
     (Qe (x+1)/\
     Qc ((x+1),Rb,x4,x5,x6)))
   (((0:Int)<=(k:Int)/\(k:Int)<(need.length:Int))/\
   Q x1 x2 x3 (P9 need (k:Int))))
  ⟨⟨rfl,h⟩,RA.refl _,start,by dsimp only;omega⟩ (by
   rintro i ⟨x,need,n1,u1,m1⟩ hi ⟨⟨hx,hT⟩,hP,hN,hL⟩;dsimp only at hx hT hP hN hL;subst hx;have Z3:=hr i hi;have W4:i<16:=lt_of_lt_of_le hi hl;have hL2:n1.length<=554050781184:=Nat.le_trans hL om
   obtain⟨⟨j,XQ,n2,u2,m2⟩,⟨⟨hj,hT2⟩,Yh,Yi,hL3⟩,w2⟩:=Ev (τ:=Int×(List Int)×(List P')×(Qa Int)×(Qa Int)->Prop) (n:=k) (x0:=((k:Int),need,n1,u1,m1))
    (λa (y:Int×List Int×(List P')×(Qa Int)×(Qa Int))=>(y.1=(k:Int)-a/\TS o place y.2.2.1 y.2.2.2.1 y.2.2.2.2)/\RA n1 y.2.2.1/\Yr y.2.2.1 y.2.1 k (k-a) (λσ=>mC (λj=>dn nodes (P9 refs (j:Int)) σ) i) (λσ=>mC (λj=>dn nodes (P9 refs (j:Int)) σ) (i+1))/\y.2.2.1.length<=n1.length+16777216*a)
    (λy=>-y.1) (-(k:Int)) (λa y hy=>by rw[hy.1.1];omega)
    (B:=λN2=>λ⟨j,Rb,x4,x5,x6⟩ Qd=>
    af (decide (0<j))
     (Qe (j-1)/\
     ((0:Int)<=(j-1)/\(j-1)<(Rb.length:Int))/\
     ((0:Int)<=j/\j<(Rb.length:Int))/\
     ∃u u1 u2 r,(∃fu,az fu (P9 refs (i:Int)) (P9 Rb (j-1)) (P9 Rb j) o place x4 x5 x6 λy1 y2 y3 y4=>y1=u/\y2=u1/\y3=u2/\y4=r)/\
     ((0:Int)<=j/\j<(Rb.length:Int))/\
     Qe (j-1)/\
     Qd ((j-1),(Qt Rb j r),u,u1,u2))
     (Qe ((i:Int)+1)/\
     N2 (((i:Int)+1),Rb,x4,x5,x6)))
    ⟨⟨by simp,hT⟩,RA.refl _,⟨hN.len,hN.vd,λm hm=>by
     have:=hN.dn m hm;rw[this];funext σ;rw[if_pos hm,if_pos om]⟩,by dsimp only;omega⟩ (by
     rintro a ⟨j,XQ,n2,u2,m2⟩ ha ⟨⟨hj,hT2⟩,Yh,Yi,hL3⟩;dsimp only at hj hT2 Yh Yi hL3;obtain⟨lo,Sr⟩:∃lo,k-a=lo+1:=⟨k-a-1,om⟩;obtain rfl:j=((lo+1:Nat):Int):=om;rw[Sr]at Yi;have adW:lo+1<=k:=om;have e1:((lo+1:Nat):Int)-1=(lo:Int):=om;have SS:=Yi.len;obtain⟨n3,u3,m3,r3,a3,w3⟩:=kS hT2 (Nat.le_trans (Nat.add_le_add hL3 w12) om) ((Z3.pre hP).pre Yh) (Yi.vd lo om) (Yi.vd (lo+1) adW);have l3:=a3.le;refine⟨((lo:Int),Qt XQ ((lo+1:Nat):Int) r3,n3,u3,m3),⟨⟨by dsimp only;omega,a3.ts⟩,Yh.trans a3.pre,?_,Nat.le_trans l3 om⟩,λN2 next hn=>Qb (λ_=>?_) (λhc=>absurd (show(0:Int)<_ by omega) hc)⟩;·dsimp only;rw[show k-(a+1)=lo by omega];exact GE Yi (c:=dn nodes (P9 refs (i:Int))) adW a3.pre a3.vd (λσ=>rfl) (by rw[a3.dn,cG (Z3.pre hP) Yh,cG Z3 hP])
     ·rw[e1];exact⟨Qo,om,om,n3,u3,m3,r3,w3 _ ⟨rfl,rfl,rfl,rfl⟩,om,Qo,hn⟩)
   dsimp only at hj hT2 Yh Yi hL3;have hL4:n2.length<=n1.length+268435456:=Nat.le_trans hL3 om;refine⟨((i:Int)+1,XQ,n2,u2,m2),⟨⟨by dsimp only;omega,hT2⟩,hP.trans Yh,⟨Yi.len,Yi.vd,λm hm=>?_⟩,Nat.le_trans hL4 om⟩,λQ next hn=>Qb (λ_=>⟨om,w2 _ λQd=>Qb (λhc=>absurd hc om) (λ_=>⟨Qo,hn⟩)⟩) (λhc=>absurd (show(i:Int)<refs.length by omega) hc)⟩;rw[Yi.dn m hm];funext σ;rw[if_pos hm];by_cases h0:m=0;·subst h0;simp
   ·rw[if_neg om])
 dsimp only at hx hT hP hN hL;subst hx;have al4:=hN.len;refine⟨n1,u1,m1,P9 need (k:Int),⟨hT,hP,hN.vd k (Nat.le_refl _),?_,Nat.le_trans hL om⟩,λQ hQ=>⟨Qo,⟨om,om,om,om⟩,om,w Q λnext=>Qb (λhc=>absurd hc om) (λ_=>⟨om,hQ⟩)⟩⟩
 rw[hN.dn k (Nat.le_refl _)];funext σ;rw[if_pos (Nat.le_refl _)]
theorem Ky(h:jO f i=0):((P9 f.N (i:Int)).U=0->(P9 f.N (i:Int)).K=0\/(P9 f.N (i:Int)).K=1)/\((P9 f.N (i:Int)).U=4->1<=(P9 f.N (i:Int)).K/\(P9 f.N (i:Int)).K<=((P9 f.N (i:Int)).Z.length:Int)):=by
 unfold jO at h;split at h;·cases h
 split at h;·cases h
 split at h;·cases h
 split at h
 ·split at h;·cases h
  ·exact⟨λ_=>om,λhc=>om⟩
 split at h
 ·split at h;·cases h
  ·exact⟨λhc=>om,λ_=>om⟩
 ·exact⟨λhc=>om,λhc=>om⟩
theorem M8(h:TS o place nodes unique memo)(hn:o.length<=24){x:QN}{V:R7->List Bool}(hk:0<=x.U/\x.U<=5)(hK:(x.U=0->x.K=0\/x.K=1)/\(x.U=4->1<=x.K/\x.K<=(x.Z.length:Int)))(ha:pZ x.U x.Z.length=true)(hl:refs.length=x.Z.length)(Yj:x.Z.length<=16)(hb:nodes.length<=549755813888)(hr:∀j:Nat,j<refs.length->Vd nodes (P9 refs (j:Int))/\dn nodes (P9 refs (j:Int))=λσ=>P9 (V σ) (P9 x.Z (j:Int))) :
  ∃Qm Qq QE r,After o place nodes Qm Qq QE r (λσ=>kY x (V σ)) 4294967296/\
   ∀Q:List P'->Qa Int->Qa Int->Int->Prop,Q Qm Qq QE r->io x refs o place nodes unique memo Q:=by
 have w12:=vD hn;have hc:∀σ,mC (λj=>dn nodes (P9 refs (j:Int)) σ) refs.length=TM x (V σ) x.Z.length:=λσ=>by rw[Dp,hl];exact yS _ λj hj=>by rw[(hr j om).2]
 have TH:=λj hj=>(hr j hj).1;rcases (by omega:x.U=0\/x.U=1\/x.U=2\/x.U=3\/x.U=5\/x.U=4)with k|k|k|k|k|k
 ·rcases hK.1 k with e|e;·refine⟨nodes,unique,memo,0,⟨h,RA.refl _,Y0,?_,om⟩,λQ hQ=>aB (λ_=>by rw[e];exact hQ) (λhf=>by simp[k]at hf)⟩;rw[W_];funext σ;simp[kY,gM,k,e]
  ·refine⟨nodes,unique,memo,1,⟨h,RA.refl _,YZ,?_,om⟩,λQ hQ=>aB (λ_=>by rw[e];exact hQ) (λhf=>by simp[k]at hf)⟩;rw[W9];funext σ;simp[kY,gM,k,e]
 ·have h1:x.Z.length=1:=by simpa[pZ,k]using ha
  obtain⟨n1,u1,m1,r,a,w⟩:=Md h om (hr 0 om).1;refine⟨n1,u1,m1,r,⟨a.ts,a.pre,a.vd,?_,by have:=a.le;omega⟩,λQ hQ=>aB (λhf=>by simp[k]at hf) (λ_=>aB (λ_=>⟨om,w _ hQ⟩) (λhf=>by simp[k]at hf))⟩;rw[a.dn];funext σ;have:=hc σ;rw[hl,h1]at this;rw[kY,h1,<-this];simp only[gM,k,mC];show _=((((0+if dn nodes (P9 refs ((0:Nat):Int)) σ=true then 1 else 0):Nat):Int)==0);cases dn nodes (P9 refs ((0:Nat):Int)) σ<;>rfl
 ·obtain⟨n1,u1,m1,r,a,w⟩:=Eo Ks h hn (refs:=refs) (first:=1) (c:=true) om hb YZ W9 TH;refine⟨n1,u1,m1,r,⟨a.ts,a.pre,a.vd,?_,a.le⟩,λQ hQ=>aB (λhf=>by simp[k]at hf) (λ_=>aB (λhf=>by simp[k]at hf) (λ_=>aB (λ_=>w Q hQ) (λhf=>by simp[k]at hf)))⟩;rw[a.dn];funext σ;rw[Di,hc σ,kY,hl];simp only[gM,k];rw[Bool.eq_iff_iff];simp;omega
 ·obtain⟨n1,u1,m1,r,a,w⟩:=Eo MQ h hn (refs:=refs) (first:=0) (c:=false) om hb Y0 W_ TH;refine⟨n1,u1,m1,r,⟨a.ts,a.pre,a.vd,?_,a.le⟩,λQ hQ=>aB (λhf=>by simp[k]at hf) (λ_=>aB (λhf=>by simp[k]at hf) (λ_=>aB (λhf=>by simp[k]at hf) (λ_=>aB (λ_=>w Q hQ) (λhf=>by simp[k]at hf))))⟩;rw[a.dn];funext σ;rw[FR,hc σ,kY];simp only[gM,k];rw[Bool.eq_iff_iff];simp
 ·obtain⟨n1,u1,m1,r,a,w⟩:=Eo Kr h hn (refs:=refs) (first:=0) (c:=false) om hb Y0 W_ TH;refine⟨n1,u1,m1,r,⟨a.ts,a.pre,a.vd,?_,a.le⟩,λQ hQ=>aB (λhf=>by simp[k]at hf) (λ_=>aB (λhf=>by simp[k]at hf) (λ_=>aB (λhf=>by simp[k]at hf) (λ_=>aB (λhf=>by simp[k]at hf) (λ_=>aB (λ_=>w Q hQ) (λhf=>by simp[k]at hf)))))⟩;rw[a.dn];funext σ;rw[Dh,hc σ,kY];simp only[gM,k];rw[Bool.eq_iff_iff];have:=Int.tmod_eq_emod_of_nonneg (a:=((TM x (V σ) x.Z.length:Nat):Int)) (b:=2) om;simp[this];omega
 ·have k4:=hK.2 k;obtain⟨kk,SZ⟩:∃kk:Nat,x.K=kk:=⟨x.K.toNat,om⟩;obtain⟨n1,u1,m1,r,a,w⟩:=Mo h hn (refs:=refs) (k:=kk) om om hb TH;refine⟨n1,u1,m1,r,⟨a.ts,a.pre,a.vd,?_,a.le⟩,λQ hQ=>aB (λhf=>by simp[k]at hf) (λ_=>aB (λhf=>by simp[k]at hf) (λ_=>aB (λhf=>by simp[k]at hf) (λ_=>aB (λhf=>by simp[k]at hf) (λ_=>aB (λhf=>by simp[k]at hf) (λ_=>by rw[SZ];exact w Q hQ)))))⟩;rw[a.dn];funext σ;rw[hc σ,kY];simp only[gM,k,SZ];rw[Bool.eq_iff_iff];simp
end
def kO(f:GFormula)(o:List Int):Int:=if qw f≠0 then qw f else pK o f.Y
def fF(f:GFormula):R7->Bool:=λσ=>FV f (gI σ f.Y.toNat)
theorem rK:kO f o=0↔FG f/\Rv o/\(o.length:Int)=f.Y:=by
 unfold kO;constructor
 ·intro h;split at h;·rename_i hc;exact absurd h hc
  ·rename_i hc;have hl:(o.length:Int)=f.Y:=by
    unfold pK at h;split at h;·cases h
    split at h;·cases h
    ·rename_i hn;omega
   rw[<-hl]at h;exact⟨kM.1 om,rT h,hl⟩
 ·rintro⟨g,h,hl⟩;rw[if_neg (by rw[kM.2 g];simp),<-hl];exact xi h
theorem Ni(h:Rv o)(hl:(o.length:Int)=f.Y):Ts (fF f) (jn o):=λσ σ' hh=>by unfold fF;rw[yX λv hv=>hh v (h.all om)]
theorem ON(hs:s<2^f.Y.toNat):fF f (V5 s)=FV f s:=by unfold fF;rw[Je hs]
def ym(x:GFormula)(i:Nat):R7->Bool:=λσ=>P9 (cK x (gI σ x.Y.toNat) x.N.length) (x.Y+i)
def sj(o:List Int)(F:R7->Bool):Prop:=∀(place:List Int) (nodes:List P') (unique memo:Qa Int) (r:Int) (Q:Bool->Prop),TS o place nodes unique memo->nodes.length<=1099511627776->Vd nodes r->dn nodes r=F->Q true->bP r 4096 o place nodes unique memo Q
theorem sj.few{F:R7->Bool}(h:o.length<=12):sj o F:=λ_ _ _ _ _ _ hT hb hv _ hQ=>Ll hT hb h hv hQ
theorem Hd{unique memo:Qa Int}(h:TS o place nodes unique memo)(hb:nodes.length<=1099511627776)(hr:Vd nodes r){Q:Bool->Prop}(hQ:∀b,Q b):bP r 4096 o place nodes unique memo Q:=by obtain⟨s,c,w⟩:=Ba h hb o.length (o.length+1) (seen:=de) (r:=r) (most:=4096) om hr om;exact⟨o.length+1,w _ (hQ _)⟩
section
variable{f:GFormula}{o:List Int}
theorem DJ{x:GFormula}{Q:Qs->Option Int->Prop}(g:FG x)(hl:(o.length:Int)=x.Y)(hS:(∀i:Nat,i<x.N.length->sj o (ym x i))\/Q noD (some 4))(hT:TS o place [] de de)(hQ:Q (vH o (fF x)) none) :aO (σ:=Int×(List Int)×(Qa Int)×(List P')) (0,(bA (x.Y+(x.N.length:Int)) 0),de,[]) λ⟨x1,refs,x2,x3⟩ Qc=>
     af (decide (x1<x.Y))
      (cq x1 o place x3 x2 de λu u1 r3=>
      ((0:Int)<=x1/\x1<(refs.length:Int))/\
      Qe (x1+1)/\
      Qc ((x1+1),(Qt refs x1 r3),u1,u))
      (aO (σ:=Int×(List Int)×(Qa Int)×(Qa Int)×(List P')) (0,refs,x2,de,x3) λ⟨x4,QV,x5,x6,x7⟩ Qd=>
       af (decide (x4<(x.N.length:Int)))
        (((0:Int)<=x4/\x4<(x.N.length:Int))/\
        aO (σ:=Int×(List Int)) (0,[]) λ⟨x8,args⟩ next3=>
         af (decide (x8<(((P9 x.N x4).Z).length:Int)))
          (((0:Int)<=x8/\x8<(((P9 x.N x4).Z).length:Int))/\
          ((0:Int)<=(P9 ((P9 x.N x4).Z) x8)/\(P9 ((P9 x.N x4).Z) x8)<(QV.length:Int))/\
          ((args++[(P9 QV (P9 ((P9 x.N x4).Z) x8))]).length*8<=140737488355328)/\
          Qe (x8+1)/\
          next3 ((x8+1),(args++[(P9 QV (P9 ((P9 x.N x4).Z) x8))])))
          (Qe (x.Y+x4)/\
          ∃u2 u3 u4 r4,(io (P9 x.N x4) args o place x7 x5 x6 λy1 y2 y3 y4=>y1=u2/\y2=u3/\y3=u4/\y4=r4)/\
          ((0:Int)<=(x.Y+x4)/\(x.Y+x4)<(QV.length:Int))/\
          Qe (x.Y+x4)/\
          ((0:Int)<=(x.Y+x4)/\(x.Y+x4)<(QV.length:Int))/\
          bP (P9 (Qt QV (x.Y+x4) r4) (x.Y+x4)) 4096 o place u2 u3 u4 λr5=>
          af (!r5)
           (Q (⟨[],[],0⟩:Qs) (some 4))
           (Qe (x4+1)/\
           Qd ((x4+1),(Qt QV (x.Y+x4) r4),u3,u4,u2))))
        (((0:Int)<=x.A/\x.A<(QV.length:Int))/\
        dA (P9 QV x.A) o place x7 x5 x6 λr6=>
        Q r6 none)):=by
 have v0:=g.v0;have v24:=g.v24;have n128:=g.n128;have hn:o.length<=24:=om;obtain⟨nv,hnv⟩:∃nv:Nat,x.Y=nv:=⟨x.Y.toNat,om⟩;have Vj:((bA (x.Y+(x.N.length:Int)) (0:Int)).length:Int)=x.Y+x.N.length:=oQ om;refine bu (n:=nv) (λi (y:Int×List Int×Qa Int×List P')=>(y.1=(i:Int)/\(y.2.1.length:Int)=x.Y+x.N.length/\y.2.2.2.length<=i/\TS o place y.2.2.2 y.2.2.1 de)/\∀v:Nat,v<i->Vd y.2.2.2 (P9 y.2.1 (v:Int))/\dn y.2.2.2 (P9 y.2.1 (v:Int))=λσ=>σ v) (λy=>y.1) 0 (λi y hy=>by rw[hy.1.1];omega) ⟨⟨rfl,Vj,Nat.zero_le _,hT⟩,λv hv=>absurd hv om⟩ ?_ ?_
 ·rintro i ⟨x1,refs,u1,n1⟩ next hi ⟨⟨hx,Tk,SS,hT1⟩,hI⟩ W1
  dsimp only at hx Tk SS hT1 hI;subst hx;obtain⟨n2,u2,r2,a,w⟩:=Cg hT1 om (v:=(i:Int)) om;have:=a.le;refine Qb (λ_=>w _ ⟨om,Qo,W1 _ ⟨⟨by dsimp only;omega,by dsimp only;rw[ck];exact Tk,by dsimp only;omega,a.ts⟩,λv hv=>?_⟩⟩) (λhc=>absurd (show(i:Int)<x.Y by omega) hc);dsimp only;rw[dO om];split;·rename_i he;subst he;exact⟨a.vd,a.dn⟩
  ·have h1:=hI v om;exact⟨h1.1.pre a.pre,by rw[cG h1.1 a.pre,h1.2]⟩
 rintro⟨x1,refs,u1,n1⟩ next ⟨⟨hx,Tk,SS,hT1⟩,hI⟩
 dsimp only at hx Tk SS hT1 hI;subst hx;refine Qb (λhc=>absurd hc om) (λ_=>?_)
 refine bu (n:=x.N.length) (λi (y:Int×List Int×Qa Int×Qa Int×List P')=>(y.1=(i:Int)/\(y.2.1.length:Int)=x.Y+x.N.length/\y.2.2.2.2.length<=24+4294967296*i/\TS o place y.2.2.2.2 y.2.2.1 y.2.2.2.1)/\∀a:Nat,(a:Int)<x.Y+i->Vd y.2.2.2.2 (P9 y.2.1 (a:Int))/\dn y.2.2.2.2 (P9 y.2.1 (a:Int))=λσ=>P9 (cK x (gI σ nv) i) (a:Int)) (λy=>y.1) 0
  (λi y hy=>by rw[hy.1.1];omega) ⟨⟨rfl,Tk,by dsimp only;omega,hT1⟩,λa ha=>?_⟩ ?_ ?_
 ·dsimp only;have h1:=hI a om;refine⟨h1.1,?_⟩;rw[h1.2];funext σ;rw[mj om om,toNat_natCast,K_ om]
 ·rintro i ⟨x4,QV,u5,m5,n5⟩ Qd hi ⟨⟨hx,TH,hl5,hT5⟩,hA⟩ TL;dsimp only at hx TH hl5 hT5 hA;subst hx;have ng:=dq (g.node i hi);have T7:=qy g hi;have ll:=ng.len;have aj0:i<128:=om;have hl6:n5.length<=549755813888:=Nat.le_trans hl5 om;refine Qb (λ_=>⟨om,?_⟩) (λhc=>absurd (show(i:Int)<_ by omega) hc);refine gB (n:=(P9 x.N (i:Int)).Z.length) (λj=>((j:Int),((P9 x.N (i:Int)).Z.take j).map λa=>P9 QV a)) (λy=>y.1) 0 (λj=>by dsimp only;omega) rfl (λj next3 hj WC=>?_) (λnext3=>?_)
  ·have h3:=T7 _ (qK hj);dsimp only;refine Qb (λ_=>⟨om,om,by rw[gC,length_map,length_take];omega,Qo,?_⟩) (λhc=>absurd (show(j:Int)<_ by omega) hc);rw[jC hj,map_append]at WC;exact WC
  ·refine Qb (λhc=>absurd hc om) (λ_=>?_)
   rw[take_length];obtain⟨n6,u6,m6,r6,a,w⟩:=M8 hT5 hn (x:=P9 x.N (i:Int)) (refs:=(P9 x.N (i:Int)).Z.map λa=>P9 QV a) (V:=λσ=>cK x (gI σ nv) i) ⟨ng.k0,ng.k5⟩ (Ky (g.node i hi)) ng.args (by rw[length_map]) ll hl6 (λj hj=>by
    rw[length_map]at hj;have h3:=T7 _ (qK hj);rw[xt hj];have:=hA (P9 (P9 x.N (i:Int)).Z (j:Int)).toNat om;rw[show(((P9 (P9 x.N (i:Int)).Z (j:Int)).toNat:Nat):Int)=P9 (P9 x.N (i:Int)).Z (j:Int)by omega]at this;exact this)
   have l6:=a.le;have hl7:n6.length<=24+4294967296*(i+1):=Nat.le_trans l6 om;have aii:P9 (Qt QV (x.Y+i) r6) (x.Y+i)=r6:=by rw[oY om om,if_pos rfl]
   refine⟨Qo,n6,u6,m6,r6,w _ ⟨rfl,rfl,rfl,rfl⟩,om,Qo,om,?_⟩;rw[aii];have Zi:∀P:Bool->Prop,P true->(Q noD (some 4)->P false)->bP r6 4096 o place n6 u6 m6 P:=λP h1 h2=>by
    rcases hS with hS|hS;·refine hS i hi _ _ _ _ _ _ a.ts (Nat.le_trans hl7 om) a.vd ?_ h1;rw[a.dn];funext σ;unfold ym;rw[nE v0 hi,hnv,toNat_natCast]
    ·exact Hd a.ts (Nat.le_trans hl7 om) a.vd λb=>match b with
      | false=>h2 hS
      | true=>h1
   refine Zi _ (aB (λhc=>by cases hc) (λ_=>⟨Qo,TL _ ⟨⟨by dsimp only;omega,by dsimp only;rw[ck];exact TH,hl7,a.ts⟩,λb hb=>?_⟩⟩)) (λh4=>aB (λ_=>h4) (λhc=>by cases hc));show Vd n6 (P9 (Qt QV (x.Y+i) r6) (b:Int))/\dn n6 (P9 (Qt QV (x.Y+i) r6) (b:Int))=_;rw[oY om om];by_cases hbi:(b:Int)=x.Y+i
   ·rw[if_pos hbi,hbi];refine⟨a.vd,?_⟩;rw[a.dn];funext σ;have Vi:((cK x (gI σ nv) i).length:Int)=x.Y+i:=by rw[mh];omega
    rw[cK,<-Vi,lR]
   ·rw[if_neg hbi];have h1:=hA b om;refine⟨h1.1.pre a.pre,?_⟩;rw[cG h1.1 a.pre,h1.2];funext σ;rw[iv (m:=i) om om (i+1) om]
 ·rintro⟨x4,QV,u5,m5,n5⟩ Qd ⟨⟨hx,TH,hl5,hT5⟩,hA⟩;dsimp only at hx TH hl5 hT5 hA;subst hx;have t0:=g.Sd;have tt:=g.top;have ht:=hA x.A.toNat om;rw[show((x.A.toNat:Nat):Int)=x.A by omega]at ht;refine Qb (λhc=>absurd hc om) (λ_=>⟨om,JF hT5 (Nat.le_trans hl5 om) ht.1 ?_⟩);rw[ht.2];have:(λσ=>P9 (cK x (gI σ nv) x.N.length) x.A)=fF x:=by funext σ;unfold fF FV;rw[hnv];rfl
  rw[this];exact hQ
theorem wP{Q:Qs->Option Int->Prop}(ht:Qe f.A)(h1:kO f o≠0->Q noD (some (kO f o)))(hn:kO f o=0->(∀i:Nat,i<f.N.length->sj o (ym f i))\/Q noD (some 4))(h2:kO f o=0->Q (vH o (fF f)) none):jz f o Q:=by
 refine NH ht (λhc=>?_) (λg r a hr Vz=>?_);·have e:kO f o=qw f:=if_pos hc;rw[e]at h1;exact aB (λ_=>h1 hc) (λhf=>by cases hf)
 ·refine aB (λhf=>by cases hf) (λ_=>?_)
  have e:kO f o=pK o f.Y:=if_neg (by rw[kM.2 g];simp);refine pn ?_;by_cases h0:pK o f.Y=0
  ·rw[h0];have hz:kO f o=0:=by rw[e,h0]
   obtain⟨_,hO,hl⟩:=rK.1 hz;have hS:=hn hz;have hQ:=h2 hz;have v0:=g.v0;have n128:=g.n128;refine aB (λhf=>by cases hf) (λ_=>⟨λx=>FG x/\x.Y=f.Y/\(∀s,FV x s=FV f s)/\∀n:Nat,n<x.N.length->∃k:Nat,k<f.N.length/\∀s,P9 (cK x s x.N.length) (f.Y+n)=P9 (cK f s f.N.length) (f.Y+k),?_,?_⟩)
   ·refine Qb (λ_=>NE g (λx gx hv hf hN=>aB (λhc=>by cases hc) (λ_=>⟨gx,hv,hf,hN⟩))) (λhc=>?_)
    have htv:=Vz om;refine⟨⟨g.v0,g.v24,by simp,λi hi=>by simp at hi,g.Sd,by simpa using htv⟩,rfl,λs=>?_,λn hn=>by simp at hn⟩;show P9 (cK ⟨f.Y,[],f.A⟩ s 0) f.A=P9 (cK f s f.N.length) f.A;rw[mj (f:=⟨f.Y,[],f.A⟩) g.Sd htv,mj g.Sd htv]
   ·rintro x ⟨gx,hv,hf,hN⟩;have hSx:(∀i:Nat,i<x.N.length->sj o (ym x i))\/Q noD (some 4):=by
     rcases hS with hS|hS
     ·refine .inl λi hi=>?_;obtain⟨k,hk,hkv⟩:=hN i hi;have e:ym x i=ym f k:=by funext σ;unfold ym;rw[hv,hkv]
      rw[e];exact hS k hk
     ·exact .inr hS
    refine Me hO (λplace hT=>⟨by unfold Qe;have:=gx.v24;have:=gx.n128;have:=gx.v0;omega,⟨by have:=gx.v24;have:=gx.n128;have:=gx.v0;omega,by have:=gx.v24;have:=gx.n128;have:=gx.v0;omega,by have:=gx.v24;have:=gx.n128;have:=gx.v0;omega,by have:=gx.v24;have:=gx.n128;have:=gx.v0;omega⟩,DJ gx om hSx hT ?_⟩);have:fF x=fF f:=by funext σ;unfold fF;rw[hv,hf]
    rw[this];exact hQ
  ·have e2:pU (pK o f.Y)=some (pK o f.Y):=yP h0;rw[e2];rw[e]at h1;exact aB (λ_=>h1 h0) (λhf=>by cases hf)
theorem wO{Q:Qs->Option Int->Prop}(ht:Qe f.A)(h1:kO f o≠0->Q noD (some (kO f o)))(hn:kO f o=0->f.Y<=12)(h2:kO f o=0->Q (vH o (fF f)) none):jz f o Q:=wP ht h1 (λhz=>.inl λ_ _=>sj.few (by have:=(rK.1 hz).2.2;have:=hn hz;omega)) h2
end
section
variable{d:Qs}
theorem OR{A B:Prop}(h0:e≠0->A)(h1:e=0->B):af (isSome (pU e)) A B:=by
 by_cases h:e=0;·rw[h];exact aB (λhc=>by cases hc) (λ_=>h1 h)
 ·exact aB (λ_=>h0 h) (λhc=>by rw[vC h]at hc;cases hc)
end
theorem Rv.nd(h:Rv o):o.Nodup:=by rw[List.Nodup,List.pairwise_iff_getElem];intro i j hi hj Sv he;have:=h.inj i j hi hj (by unfold P9;rw[List.getD_eq_getElem?_getD,List.getD_eq_getElem?_getD,toNat_natCast,toNat_natCast,List.getElem?_eq_getElem hi,List.getElem?_eq_getElem hj];exact he);omega
theorem Ft(hl:o.length<=24)(nd:o.Nodup)(hm:∀x∈o,0<=x/\x<o.length):Rv o:=by refine⟨hl,λi hi=>by rw[AR hi];exact hm _ (getElem_mem hi),λi j hi hj he=>?_⟩;rw[AR hi,AR hj]at he;exact(List.getElem_inj nd).1 he
def ry(n:Nat):List Int:=(range n).map λi:Nat=>(i:Int)
theorem jm:(ry n).length=n:=by simp[ry]
theorem yv{x:Int}:x∈ry n↔0<=x/\x<n:=by
 simp only[ry,List.mem_map,List.mem_range];constructor;·rintro⟨i,h,rfl⟩;omega
 ·intro h;exact⟨x.toNat,om,om⟩
theorem Fz(h:i<n):P9 (ry n) (i:Int)=(i:Int):=by rw[AR (by rw[jm];exact h)];simp[ry]
theorem Ax{Q:List Int->Prop}(hn:n<=1048576)(hQ:Q (ry n)):gZ n Q:=by
 refine⟨⟨om,om,om,om⟩,?_⟩;refine bu (n:=n) (λk y=>y.1=(k:Int)/\y.2.length=n/\∀i:Nat,i<k->P9 y.2 (i:Int)=(i:Int)) (λy=>y.1) 0 (λk y hy=>by rw[hy.1];omega) ⟨rfl,by simp[bA],λi hi=>om⟩ ?_ ?_
 ·rintro k ⟨x,out⟩ next hk ⟨hx,hl,hI⟩ W1
  dsimp only at hx hl hI;subst hx;rw[toNat_natCast];refine Qb (λ_=>⟨om,Qo,W1 _ ⟨by dsimp only;omega,by dsimp only;rw[ck];exact hl,λi hi=>?_⟩⟩) (λhc=>absurd (show(k:Int)<n by omega) hc);dsimp only;rw[dO om];split;·rename_i he;rw[he]
  ·exact hI i om
 ·rintro⟨x,out⟩ next ⟨hx,hl,hI⟩
  dsimp only at hx hl hI;subst hx;rw[toNat_natCast];refine Qb (λhc=>absurd hc om) (λ_=>?_)
  rw[show out=ry n from I1 (by rw[hl,jm]) (λi hi=>by rw[hI i om,Fz om])];exact hQ
theorem Hf(hn:n<=24)(hQ:Q (ry n) none):mM n Q:=by refine⟨λb=>b=false,Qb (λhc=>om) (λ_=>decide_eq_false om),λb hb=>?_⟩;subst hb;exact aB (λhc=>by cases hc) (λ_=>Ax om hQ)
section
variable{o:List Int}
end
section
variable{o a b:List Int}
end
section
variable{f:GFormula}
structure VI(f:GFormula)(s:List Int×List Bool):Prop where
 len:(s.2.length:Int)=f.Y+f.N.length
 nd:s.1.Nodup
 mem:∀v,v∈s.1↔(0<=v/\v<f.Y)/\P9 s.2 v=true
end
section
variable{f:GFormula}
abbrev Ul(f:GFormula)(k:Nat):Prop:=P9 (cU f f.N.length) (f.Y+k)=true
def cM(f:GFormula):Nat->Nat
 | 0=>0
 | k+1=>cM f k+(if P9 (cU f f.N.length) (f.Y+k)=true then 1 else 0)
def WR(f:GFormula)(a:Int):Int:=if a<f.Y then a else f.Y+(cM f (a-f.Y).toNat:Nat)
def Yw(f:GFormula):Nat->List QN
 | 0=>[]
 | k+1=>if P9 (cU f f.N.length) (f.Y+k)=true then Yw f k++[⟨(P9 f.N (k:Int)).U,(P9 f.N (k:Int)).K,(P9 f.N (k:Int)).Z.map (WR f)⟩]else Yw f k
def Tw(f:GFormula):GFormula:=⟨f.Y,Yw f f.N.length,WR f f.A⟩
theorem ni:∀k,(Yw f k).length=cM f k
 | 0=>rfl
 | k+1=>by
  rw[Yw,cM];split;·rw[length_append,ni k];rfl
  ·rw[ni k];rfl
theorem F3(h:Ul f k):cM f (k+1)=cM f k+1:=by rw[cM,if_pos (show P9 (cU f f.N.length) (f.Y+k)=true from h)]
theorem K9(h:¬Ul f k):cM f (k+1)=cM f k:=by rw[cM,if_neg (show ¬P9 (cU f f.N.length) (f.Y+k)=true from h)];rfl
theorem L9{i:Nat}:∀ {k:Nat},i<=k->cM f i<=cM f k
 | 0,h=>by obtain rfl:i=0:=om;exact Nat.le_refl _
 | k+1,h=>by
  rcases lt_or_ge i (k+1)with h1|h1;·have:=L9 (i:=i) (k:=k) om;rw[cM];omega
  ·obtain rfl:i=k+1:=om;exact Nat.le_refl _
theorem F4(h:Ul f i)(hk:i<k):cM f i<cM f k:=by have:=L9 (f:=f) (i:=i+1) (k:=k) hk;rw[F3 h]at this;omega
theorem Nu:∀k,cM f k<=k
 | 0=>Nat.le_refl _
 | k+1=>by rw[cM];have:=Nu k;split<;>omega
theorem uN{i:Nat}(h:Ul f i):∀ {k:Nat},i<k->P9 (Yw f k) (cM f i:Int)=⟨(P9 f.N (i:Int)).U,(P9 f.N (i:Int)).K,(P9 f.N (i:Int)).Z.map (WR f)⟩
 | 0,hk=>om
 | k+1,hk=>by
  rw[Yw];rcases lt_or_ge i k with h1|h1
  ·have ih:=uN h h1;have hl:=F4 h h1;split;·rw[mE om (by rw[ni];omega)];exact ih
   ·exact ih
  ·obtain rfl:i=k:=om;rw[if_pos (show P9 (cU f f.N.length) (f.Y+i)=true from h),<-ni];exact lR
theorem BA(h:a<f.Y):WR f a=a:=if_pos h
theorem Bz:WR f (f.Y+k)=f.Y+(cM f k:Nat):=by unfold WR;rw[if_neg om];congr 3;omega
theorem pR(g:FG f)(hi:i<f.N.length)(h:Ul f i):∀a∈(P9 f.N (i:Int)).Z,(0<=a/\a<f.Y+i)/\P9 (cU f f.N.length) a=true:=λa ha=>⟨qy g hi a ha,(du g f.N.length (Nat.le_refl _)).cl i om hi h a ha⟩
theorem H_(h0:0<=a)(hv:0<=f.Y)(ha:a<f.Y+i)(hm:P9 (cU f f.N.length) a=true):0<=WR f a/\WR f a<f.Y+(cM f i:Nat):=by
 by_cases h:a<f.Y;·rw[BA h];omega
 ·obtain⟨k,rfl⟩:∃k:Nat,a=f.Y+k:=⟨(a-f.Y).toNat,om⟩;rw[Bz];have:=F4 (f:=f) (i:=k) (k:=i) hm om;omega
theorem Bl(g:FG f):∀n,n<(Tw f).N.length->∃i,i<f.N.length/\Ul f i/\cM f i=n:=by
 have key:∀k n,n<cM f k->∃i,i<k/\Ul f i/\cM f i=n:=λk=>by
  induction k with
  | zero=>intro n hn;rw[cM]at hn;omega
  | succ k ih=>
   intro n hn;by_cases hm:Ul f k
   ·rw[F3 hm]at hn;by_cases he:n=cM f k;·exact⟨k,om,hm,he.symm⟩
    ·obtain⟨i,h1,h2⟩:=ih n om;exact⟨i,om,h2⟩
   ·rw[K9 hm]at hn;obtain⟨i,h1,h2⟩:=ih n hn;exact⟨i,om,h2⟩
 intro n hn;refine key _ n ?_;have:(Tw f).N.length=cM f f.N.length:=ni _;omega
theorem HB(g:FG f):FG (Tw f):=by
 have v0:=g.v0;have hn:=g.n128;have hl:(Tw f).N.length=cM f f.N.length:=ni _;have hle:=Nu (f:=f) f.N.length;have ht:=H_ g.Sd v0 g.top (du g f.N.length (Nat.le_refl _)).top;refine⟨v0,g.v24,om,λn hn=>?_,ht.1,by rw[hl];exact ht.2⟩;obtain⟨i,hi,hm,rfl⟩:=Bl g n hn;have h0:=g.node i hi;have Tg:P9 (Tw f).N (cM f i:Int)=_:=uN hm hi;unfold jO at h0 ⊢;rw[Tg];simp only[length_map];split at h0;·cases h0
 rename_i c1;split at h0;·cases h0
 rename_i c2;split at h0;·cases h0
 rw[if_neg c1,if_neg c2,if_neg];·exact h0
 ·rintro⟨j,hj,hc⟩;rw[xt hj]at hc;have h1:=pR g hi hm _ (qK hj);have h2:=H_ h1.1.1 v0 h1.1.2 h1.2;have h3:(Tw f).Y=f.Y:=rfl;omega
theorem Js{Q:GFormula->Option Int->Prop}(g:FG f)(hQ:Q (Tw f) none):gD f Q:=by
 have v0:=g.v0;have v24:=g.v24;have n128:=g.n128;have t0:=g.Sd;have tt:=g.top;have hl:=iT g f.N.length;have hb:=du g f.N.length (Nat.le_refl _);obtain⟨sl,sa⟩:=xG (l:=cU f f.N.length) (a:=f.Y) om;have Vj:((bA (f.Y+(f.N.length:Int)) (0:Int)).length:Int)=f.Y+f.N.length:=oQ om;refine eV Qo ?_;rw[kM.2 g];refine aB (λhc=>by cases hc) (λ_=>⟨Qo,⟨om,om,om,om⟩,?_⟩)
 refine bu (n:=f.Y.toNat) (λi (y:Int×List Int)=>(y.1=(i:Int)/\(y.2.length:Int)=f.Y+f.N.length)/\∀v:Nat,v<i->P9 y.2 (v:Int)=(v:Int)) (λy=>y.1) 0 (λi y hy=>by rw[hy.1.1];omega) ⟨⟨rfl,Vj⟩,λv hv=>absurd hv om⟩ ?_ ?_
 ·rintro i ⟨x,to⟩ next hi ⟨⟨hx,Tk⟩,hI⟩ hn
  dsimp only at hx Tk hI;subst hx;refine Qb (λ_=>⟨om,Qo,hn _ ⟨⟨by dsimp only;omega,by dsimp only;rw[ck];exact Tk⟩,λv hv=>?_⟩⟩) (λhc=>absurd (show(i:Int)<f.Y by omega) hc);dsimp only;rw[dO om];split;·rename_i he;rw[he]
  ·exact hI v om
 rintro⟨x,to0⟩ next ⟨⟨hx,Tk⟩,hI⟩
 dsimp only at hx Tk hI;subst hx;refine Qb (λhc=>absurd hc om) (λ_=>⟨_,uG g rfl,⟨om,om,om⟩,?_⟩)
 refine bu (n:=f.N.length) (λi (y:Int×List Int×List QN)=>(y.1=(i:Int)/\(y.2.1.length:Int)=f.Y+f.N.length/\y.2.2=Yw f i)/\(∀v:Nat,(v:Int)<f.Y->P9 y.2.1 (v:Int)=(v:Int))/\∀k:Nat,k<i->Ul f k->P9 y.2.1 (f.Y+k)=f.Y+(cM f k:Nat)) (λy=>y.1) 0
  (λi y hy=>by rw[hy.1.1];omega) ⟨⟨rfl,Tk,rfl⟩,λv hv=>hI v om,λk hk=>absurd hk om⟩ ?_ ?_
 ·rintro i ⟨x,to,x2⟩ Qd hi ⟨⟨hx,SS,V7⟩,hV,hK⟩ hn;dsimp only at hx SS V7 hV hK;subst hx V7;have ng:=dq (g.node i hi);have hk:=Nu (f:=f) i;have hlen:=ni (f:=f) i;dsimp only;rw[sa i om];refine Qb (λ_=>⟨om,aB (λhm=>?_) (λhm=>⟨om,?_⟩)⟩) (λhc=>absurd (show(i:Int)<_ by omega) hc)
  ·have Uo:¬Ul f i:=by unfold Ul;intro hc;rw[hc]at hm;cases hm
   refine⟨Qo,hn _ ⟨⟨by dsimp only;omega,SS,by dsimp only;rw[Yw,if_neg (show ¬P9 (cU f f.N.length) (f.Y+i)=true from Uo)]⟩,hV,λk hk V9=>?_⟩⟩;by_cases YF:k<i;·exact hK k YF V9
   ·obtain rfl:k=i:=om;exact absurd V9 Uo
  ·have Uo:Ul f i:=by simpa[Ul]using hm
   have ll:=ng.len;have T7:=pR g hi Uo;have ael:∀a∈(P9 f.N (i:Int)).Z,P9 to a=WR f a:=λa ha=>by
    have h3:=T7 a ha;by_cases hv:a<f.Y;·obtain⟨v,rfl⟩:∃v:Nat,a=v:=⟨a.toNat,om⟩;rw[hV v hv,BA hv]
    ·obtain⟨k,rfl⟩:∃k:Nat,a=f.Y+k:=⟨(a-f.Y).toNat,om⟩;rw[hK k om h3.2,Bz]
   have ag9:(P9 f.N (i:Int)).Z.map (λa=>P9 to a)=(P9 f.N (i:Int)).Z.map (WR f):=List.map_congr_left ael;refine gB (n:=(P9 f.N (i:Int)).Z.length) (λj=>((j:Int),((P9 f.N (i:Int)).Z.take j).map λa=>P9 to a)) (λy=>y.1) 0 (λj=>by dsimp only;omega) rfl (λj next3 hj WC=>?_) (λnext3=>?_)
   ·have h3:=T7 _ (qK hj);dsimp only;refine Qb (λ_=>⟨om,om,by rw[gC,length_map,length_take];omega,Qo,?_⟩) (λhc=>absurd (show(j:Int)<_ by omega) hc);rw[jC hj,map_append]at WC;exact WC
   ·refine Qb (λhc=>absurd hc om) (λ_=>?_)
    dsimp only;rw[take_length,ag9];refine⟨Qo,Qo,om,by rw[gC];omega,Qo,hn _ ⟨⟨by dsimp only;omega,by dsimp only;rw[ck];exact SS,by dsimp only;rw[Yw,if_pos (show P9 (cU f f.N.length) (f.Y+i)=true from Uo)]⟩,λv hv=>?_,λk hk V9=>?_⟩⟩;·dsimp only;rw[oY om om,if_neg om];exact hV v hv
    ·dsimp only;rw[oY om om,hlen];by_cases hki:k=i;·subst hki;rw[if_pos rfl]
     ·rw[if_neg om];exact hK k om V9
 ·rintro⟨x,to,x2⟩ Qd ⟨⟨hx,SS,V7⟩,hV,hK⟩;dsimp only at hx SS V7 hV hK;subst hx V7;have hT:P9 to f.A=WR f f.A:=by
   by_cases hv:f.A<f.Y;·obtain⟨v,hv'⟩:∃v:Nat,f.A=v:=⟨f.A.toNat,om⟩;rw[BA hv];rw[hv']at hv ⊢;exact hV v hv
   ·obtain⟨k,hk⟩:∃k:Nat,f.A=f.Y+k:=⟨(f.A-f.Y).toNat,om⟩;have hbt:=hb.top;rw[hk]at hbt ⊢;rw[hK k om hbt,Bz]
  refine Qb (λhc=>absurd hc om) (λ_=>⟨om,?_⟩)
  rw[hT];exact hQ
end
variable{args:List (List Nat)}{Fs:List (Nat->Bool)}
section
variable{f:GFormula}
def Vu(f:GFormula):Prop:=∀k,k<f.N.length->Ul f k->(P9 f.N (k:Int)).U≠1/\(P9 f.N (k:Int)).U≠5
def TY(f:GFormula)(a:Int)(s:Nat):Bool:=P9 (cK f s f.N.length) a
theorem zC(h0:0<=a)(h:a<f.Y):TY f a s=s.testBit a.toNat:=by rw[TY,iv (m:=0) h0 om _ (Nat.zero_le _),<-Ta];obtain⟨k,rfl⟩:=eq_ofNat_of_zero_le h0;rw[cK,uI (by simp;omega)];simp
theorem JE:FV f s=TY f f.A s:=rfl
def jr(f:GFormula)(x:QN):List (Nat->Bool):=x.Z.map (TY f)
theorem Eg{s:Nat}:∀(l m:List (Nat->Bool)),nF s (l++m)=nF s l+nF s m
 | [],m=>by simp[nF]
 | F::l,m=>by rw[List.cons_append,nF,nF,Eg l m];omega
theorem LZ{s:Nat}:∀l:List (Nat->Bool),nF s l<=l.length
 | []=>Nat.le_refl _
 | F::l=>by have:=LZ (s:=s) l;rw[nF,length_cons];cases F s<;>simp<;>omega
theorem vL{x:QN}(hj:j<x.Z.length):(jr f x).take (j+1)=(jr f x).take j++[TY f (P9 x.Z (j:Int))]:=by grind [jr,take_add_one,uI]
theorem Ja(g:FG f){s i:Nat}(hi:i<f.N.length):∀j,j<=(P9 f.N (i:Int)).Z.length->TM (P9 f.N (i:Int)) (cK f s i) j=nF s ((jr f (P9 f.N (i:Int))).take j)
 | 0,_=>by simp[TM,nF]
 | j+1,h=>by have ha:=(dq (g.node i hi)).arg j om;have v0:=g.v0;rw[TM,Ja g hi j om,vL om,Eg,<-iv (m:=i) ha.1 om f.N.length om];simp only[nF,TY];cases P9 (cK f s f.N.length) (P9 (P9 f.N (i:Int)).Z (j:Int))<;>simp
theorem sm(g:FG f)(hi:i<f.N.length):TY f (f.Y+i) s=gM (P9 f.N (i:Int)) (nF s (jr f (P9 f.N (i:Int)))):=by rw[TY,nE g.v0 hi,kY,Ja g hi _ (Nat.le_refl _),List.take_of_length_le (by rw[jr,length_map];exact Nat.le_refl _)]
theorem LB(g:FG f){s:Nat}:∀(n:Nat) (a:Int),0<=a->a<f.Y+n->n<=f.N.length->P9 (cU f f.N.length) a=true->TY (Tw f) (WR f a) s=TY f a s
 | n,a,h0,h1,hn,hm=>by
  have v0:=g.v0;by_cases hv:a<f.Y;·grind [BA,zC,Tw]
  obtain⟨k,rfl⟩:∃k:Nat,a=f.Y+k:=⟨(a-f.Y).toNat,om⟩;have hk:k<f.N.length:=om;have hc:cM f k<(Tw f).N.length:=by have:=F4 (f:=f) (i:=k) (k:=f.N.length) hm hk;have e:(Tw f).N.length=cM f f.N.length:=ni _;omega
  have Tg:P9 (Tw f).N (cM f k:Int)=_:=uN hm hk;have e1:nF s (jr (Tw f) (P9 (Tw f).N (cM f k:Int)))=nF s (jr f (P9 f.N (k:Int))):=by
   have:∀l:List Int,(∀b∈l,(0<=b/\b<f.Y+k)/\P9 (cU f f.N.length) b=true)->nF s ((l.map (WR f)).map (TY (Tw f)))=nF s (l.map (TY f)):=λl=>by
    induction l with
    | nil=>intro _;rfl
    | cons b l ih=>
     intro hl;have hb:=hl b List.mem_cons_self;rw[map_cons,map_cons,map_cons,nF,nF,ih λc hc=>hl c (List.mem_cons_of_mem _ hc),LB g k b hb.1.1 hb.1.2 om hb.2]
   rw[Tg];exact this _ (pR g hk hm)
  rw[Bz];refine(sm (HB g) hc).trans ?_;rw[sm g hk,e1,Tg];unfold gM;simp only[length_map]
 termination_by n=>n
theorem NU(g:FG f)(s:Nat):FV (Tw f) s=FV f s:=LB g f.N.length f.A g.Sd g.top (Nat.le_refl _) (du g _ (Nat.le_refl _)).top
theorem js(g:FG f){Q:Bool->Option Int->Prop}(h1:Vu f->Q true none)(h2:¬Vu f->Q false none):cJ f Q:=by
 refine Js g (aB (λhc=>by cases hc) (λ_=>?_))
 have hG:=HB g;have n128:=hG.n128;have hk:∀n,n<(Tw f).N.length->∃i,i<f.N.length/\Ul f i/\(P9 (Tw f).N (n:Int)).U=(P9 f.N (i:Int)).U:=λn hn=>by grind [Bl,Tw,uN]
 refine vS (λn=>(P9 (Tw f).N (n:Int)).U=1\/(P9 (Tw f).N (n:Int)).U=5) om (λn next hn hI hx=>?_) (λhI=>h1 λi hi hm=>?_)
 ·refine⟨om,ol ?_⟩;have no:(P9 (Tw f).N (n:Int)).U=1\/(P9 (Tw f).N (n:Int)).U=5->Q false none:=λhc=>h2 λhco=>by obtain⟨i,hi,hm,he⟩:=hk n hn;have:=hco i hi hm;omega
  refine bk (λh=>aB (λ_=>no (.inl h)) (λhc=>by cases hc)) (λh=>aB (λhc=>no (.inr (by simpa using hc))) (λhc=>hx λSw=>?_))
  rcases Sw with h5|h5;·exact h h5
  ·simp[h5]at hc
 ·have hc:cM f i<(Tw f).N.length:=by grind [F4,Tw,ni]
  have:=hI _ hc;rw[show P9 (Tw f).N (cM f i:Int)=_ from uN hm hi]at this;dsimp only at this;omega
structure UJ(n:Nat)(Fs:List (Nat->Bool))(args:List (List Nat)):Prop where
 len:args.length=Fs.length
 at_:∀i (h:i<Fs.length) (h':i<args.length),Qw n Fs[i] args[i]
theorem Bi(h:i<args.length):P9 (args.map up) (i:Int)=up args[i]:=by grind [uI]
theorem HF(h:i<Fs.length):nF s (Fs.take (i+1))=nF s (Fs.take i)+(Fs[i] s).toNat:=by grind [take_add_one,Eg,nF]
theorem yM(hn:n<=8)(h:UJ n Fs args)(hl:args.length<=1024)(hQ:∀m,Qw n (λs=>decide (0<nF s Fs)) m->Q (up m) none):eY (args.map up) [] Q:=by
 have hlen:=h.len;refine bu (n:=args.length) (λi y=>y.2=(i:Int)/\∃m,y.1=up m/\Qw n (λs=>decide (0<nF s (Fs.take i))) m) (λy=>y.2) 0 (λi y hy=>by rw[hy.1];omega) ⟨rfl,[],rfl,uw.congr λs _=>by simp[nF]⟩ ?_ ?_
 ·rintro i ⟨x,k⟩ next hi ⟨hk,m,hm,hc⟩ Q6
  dsimp only at hk hm;subst hk hm;refine Qb (λ_=>⟨by rw[length_map];omega,?_⟩) (λhc=>absurd (by rw[length_map];omega) hc);rw[Bi hi];refine Jy hn hc (h.at_ i om hi) λm' Uo=>aB (λhc=>by cases hc) (λ_=>⟨Qo,Q6 _ ⟨by (try dsimp only);omega,m',rfl,Uo.congr λs _=>?_⟩⟩);rw[HF om];cases Fs[i] s<;>simp<;>omega
 ·rintro⟨x,k⟩ next ⟨hk,m,hm,hc⟩
  dsimp only at hk hm;subst hk hm;refine Qb (λhc=>absurd hc (by rw[length_map];omega)) (λ_=>hQ m (hc.congr λs _=>by rw[hlen,take_length]))
theorem sO(hn:n<=8)(h:UJ n Fs args)(hl:args.length<=1024)(hQ:∀m,Qw n (λs=>decide (nF s Fs=Fs.length)) m->Q (up m) none):dX (args.map up) [0] Q:=by
 have hlen:=h.len;refine bu (n:=args.length) (λi y=>y.2=(i:Int)/\∃m,y.1=up m/\Qw n (λs=>decide (nF s (Fs.take i)=i)) m) (λy=>y.2) 0 (λi y hy=>by rw[hy.1];omega) ⟨rfl,[0],rfl,pX.congr λs _=>by simp[nF]⟩ ?_ ?_
 ·rintro i ⟨x,k⟩ next hi ⟨hk,m,hm,hc⟩ Q6
  dsimp only at hk hm;subst hk hm;refine Qb (λ_=>⟨by rw[length_map];omega,?_⟩) (λhc=>absurd (by rw[length_map];omega) hc);rw[Bi hi];refine zw hn hc (h.at_ i om hi) λm' Uo=>aB (λhc=>by cases hc) (λ_=>⟨Qo,Q6 _ ⟨by (try dsimp only);omega,m',rfl,Uo.congr λs _=>?_⟩⟩);have hle:=LZ (s:=s) (Fs.take i);rw[length_take]at hle;rw[HF om];cases Fs[i] s<;>simp<;>omega
 ·rintro⟨x,k⟩ next ⟨hk,m,hm,hc⟩
  dsimp only at hk hm;subst hk hm;refine Qb (λhc=>absurd hc (by rw[length_map];omega)) (λ_=>hQ m (hc.congr λs _=>by rw[hlen,take_length]))
theorem Gr(hn:n<=8)(h:UJ n Fs args)(hl:args.length<=1024)(hQ:∀m,Qw n (λs=>decide (nF s Fs=Fs.length)) m->Q (up m) none):ta (args.map up) Q:=sO hn h hl hQ
theorem D5(hn:n<=8)(h:UJ n Fs args)(hl:args.length<=1024)(hQ:∀m,Qw n (λs=>decide (0<nF s Fs)) m->Q (up m) none):rm (args.map up) Q:=yM hn h hl hQ
structure V3(n:Nat)(c:Nat->Nat)(k:Nat)(t:List (List Int)):Prop where
 len:t.length=k+1
 at_:∀j,j<=k->∃m,P9 t (j:Int)=up m/\Qw n (λs=>decide (j<=c s)) m
theorem xz:V3 n (λ_=>0) k (Qt (bA ((k:Int)+1) []) 0 [0]):=by
 refine⟨by rw[ck];simp[bA];try omega,λj hj=>?_⟩;rw[show(0:Int)=((0:Nat):Int)from rfl,dO (by simp[bA])];by_cases e:j=0;·subst e;exact⟨[0],rfl,pX.congr λs _=>by simp⟩
 ·rw[if_neg e];exact⟨[],BC om,uw.congr λs _=>(decide_eq_false om).symm⟩
theorem K'(hn:n<=8)(h:UJ n Fs args)(hl:args.length<=1024)(hk:k<=1024)(hQ:∀m,Qw n (λs=>decide (k<=nF s Fs)) m->Q (up m) none):mX (args.map up) (k:Int) Q:=by
 have hlen:=h.len;have SS:((args.map up).length:Int)=(args.length:Int):=by rw[length_map]
 refine⟨Qo,⟨om,om,om,om⟩,om,Qo,?_⟩;refine⟨λy=>∃i:Nat,i<=args.length/\y.2=(i:Int)-1/\V3 n (λs=>nF s (Fs.drop i)) k y.1,λy=>(y.2+1).toNat,⟨args.length,Nat.le_refl _,by rw[SS],?_⟩,?_⟩;·simp_all [xz,nF,funext,List.drop_length]
 rintro⟨t,x⟩ ⟨i,hi,hx,ht⟩;dsimp only at hx ht;subst hx;refine Qb (λhc=>?_) (λhc=>?_)
 ·obtain⟨i,rfl⟩:∃j,i=j+1:=⟨i-1,om⟩;have hia:i<args.length:=om;have hif:i<Fs.length:=om;have hd:∀s,nF s (Fs.drop i)=(Fs[i] s).toNat+nF s (Fs.drop (i+1)):=λs=>by rw[List.drop_eq_getElem_cons hif];rfl
  have Uf:V3 n (λs=>nF s (Fs.drop i)) 0 [[0]]:=⟨rfl,λj hj=>by
   obtain rfl:j=0:=om;exact⟨[0],rfl,pX.congr λs _=>by simp⟩⟩
  refine bu (n:=k) (λj y=>y.1=((j+1:Nat):Int)/\V3 n (λs=>nF s (Fs.drop i)) j y.2) (λy=>y.1) 1 (λj y hy=>by rw[hy.1];omega) ⟨rfl,Uf⟩ ?_ ?_
  ·rintro j ⟨y,nx⟩ next hj ⟨hy,hr⟩ Q6
   dsimp only at hy hr;subst hy;refine Qb (λ_=>?_) (λhc=>absurd om hc);rw[show(((i+1:Nat):Int)-1)=(i:Int)by omega,show(((j+1:Nat):Int)-1)=(j:Int)by omega,Bi hia];obtain⟨m1,e1,c1⟩:=ht.at_ j om;obtain⟨m2,e2,c2⟩:=ht.at_ (j+1) om;rw[e1,e2];have YC:=ht.len;refine⟨by rw[SS];omega,Qo,om,?_⟩;refine Jx hn (h.at_ i om hia) c1 λm3 c3=>?_;refine aB (λhc=>by cases hc) (λ_=>⟨om,Jy hn c3 c2 λm4 c4=>aB (λhc=>by cases hc) (λ_=>⟨by rw[length_append,hr.len];simp;omega,Qo,Q6 _ ⟨by (try dsimp only);omega,?_,λj' SU=>?_⟩⟩)⟩);·try dsimp only;rw[length_append,hr.len];rfl
   ·try dsimp only
    by_cases e:j'=j+1
    ·subst e;refine⟨m4,?_,c4.congr λs _=>?_⟩;·rw[<-hr.len];exact lR
     ·rw[<-KF,nF,hd]
    ·obtain⟨m5,e5,c5⟩:=hr.at_ j' om;exact⟨m5,by rw[mE om (by rw[hr.len];omega)];exact e5,c5⟩
  ·rintro⟨y,nx⟩ next ⟨hy,hr⟩
   dsimp only at hy hr;subst hy;refine Qb (λhc=>absurd hc om) (λ_=>⟨Qo,⟨i,om,by (try dsimp only);omega,hr⟩,by (try dsimp only);omega⟩)
 ·obtain rfl:i=0:=om;obtain⟨m,e,c⟩:=ht.at_ k (Nat.le_refl _);have YC:=ht.len;refine⟨om,?_⟩;rw[e];exact hQ m (by simpa using c)
theorem CS(hn:n<=8)(h:UJ n Fs args)(hl:args.length<=1024)(hk:k<=1024)(hQ:∀m,Qw n (λs=>decide (k<=nF s Fs)) m->Q (up m) none):qk (args.map up) (k:Int) Q:=by
 have hlen:=h.len;have SS:((args.map up).length:Int)=(args.length:Int):=by rw[length_map]
 refine⟨Qo,⟨om,om,om,om⟩,om,?_⟩;refine bu (n:=args.length) (λi y=>y.1=(i:Int)/\V3 n (λs=>nF s (Fs.take i)) k y.2) (λy=>y.1) 0 (λi y hy=>by rw[hy.1];omega) ⟨rfl,xz⟩ ?_ ?_
 ·rintro i ⟨x,t⟩ next hi ⟨hx,ht⟩ Q6
  dsimp only at hx ht;subst hx;refine Qb (λ_=>⟨by rw[SS];omega,?_⟩) (λhc=>absurd (by rw[SS];omega) hc);rw[Bi hi];refine⟨λy=>∃j:Nat,j<=k/\y.1=(j:Int)/\y.2.length=k+1/\(∀q,q<=j->∃m,P9 y.2 (q:Int)=up m/\Qw n (λs=>decide (q<=nF s (Fs.take i))) m)/\∀q,j<q->q<=k->∃m,P9 y.2 (q:Int)=up m/\Qw n (λs=>decide (q<=nF s (Fs.take (i+1)))) m,λy=>y.1.toNat,⟨k,Nat.le_refl _,rfl,ht.len,λq hq=>ht.at_ q hq,λq h1 h2=>absurd h1 om⟩,?_⟩;rintro⟨y,t2⟩ ⟨j,hj,hy,QH,hA,hB⟩;dsimp only at hy QH hA hB;subst hy;refine Qb (λhc=>?_) (λhc=>?_)
  ·obtain⟨j,rfl⟩:∃j',j=j'+1:=⟨j-1,om⟩;obtain⟨m1,e1,c1⟩:=hA j om;obtain⟨m2,e2,c2⟩:=hA (j+1) (Nat.le_refl _);rw[show(((j+1:Nat):Int)-1)=(j:Int)by omega,e1,e2];refine⟨Qo,om,?_⟩;refine zw hn c1 (h.at_ i om hi) λm3 c3=>aB (λhc=>by cases hc) (λ_=>⟨om,Jy hn c2 c3 λm4 c4=>⟨om,aB (λhc=>by cases hc) (λ_=>⟨Qo,⟨j,om,rfl,by (try dsimp only);rw[ck];exact QH,λq hq=>?_,λq h1 h2=>?_⟩,by (try dsimp only);omega⟩)⟩⟩)
   ·try dsimp only
    rw[dO om,if_neg om];exact hA q om
   ·try dsimp only
    rw[dO om];by_cases e:q=j+1;·subst e;rw[if_pos rfl];refine⟨m4,rfl,c4.congr λs _=>?_⟩;rw[HF om];cases Fs[i] s<;>simp<;>omega
    ·grind
  ·obtain rfl:j=0:=om;refine⟨Qo,Q6 _ ⟨by (try dsimp only);omega,QH,λq hq=>?_⟩⟩;rcases Nat.eq_zero_or_pos q with rfl|Z5;·simp_all
   ·exact hB q Z5 hq
 ·rintro⟨x,t⟩ next ⟨hx,ht⟩
  dsimp only at hx ht;subst hx;obtain⟨m,e,c⟩:=ht.at_ k (Nat.le_refl _);have YC:=ht.len;refine Qb (λhc=>absurd hc (by rw[SS];omega)) (λ_=>⟨om,?_⟩)
  rw[e];exact hQ m (c.congr λs _=>by rw[hlen,take_length])
end
section
variable{f:GFormula}
theorem Ed(g:FG f)(hi:i<f.N.length):((P9 f.N (i:Int)).U=0->(P9 f.N (i:Int)).K=0\/(P9 f.N (i:Int)).K=1)/\((P9 f.N (i:Int)).U=4->1<=(P9 f.N (i:Int)).K/\(P9 f.N (i:Int)).K<=(P9 f.N (i:Int)).Z.length):=by
 have h:=g.node i hi;unfold jO at h;split at h;·cases h
 split at h;·cases h
 split at h;·cases h
 constructor;·omega
 ·omega
theorem vt(g:FG f)(hi:i<f.N.length)(k1:(P9 f.N (i:Int)).U≠1)(k5:(P9 f.N (i:Int)).U≠5) :(P9 f.N (i:Int)).U=0\/(P9 f.N (i:Int)).U=2\/(P9 f.N (i:Int)).U=3\/(P9 f.N (i:Int)).U=4:=by have:=(dq (g.node i hi)).k0;have:=(dq (g.node i hi)).k5;omega
theorem La(g:FG f)(hn:n<=8)(hi:i<f.N.length)(k1:(P9 f.N (i:Int)).U≠1)(k5:(P9 f.N (i:Int)).U≠5)(h:UJ n (jr f (P9 f.N (i:Int))) args){Q:List Int->Option Int->Prop}(hQ:∀m,Qw n (TY f (f.Y+i)) m->Q (up m) none):mY (P9 f.N (i:Int)) (args.map up) Q:=by
 have N:=dq (g.node i hi);have n16:=N.len;have hlen:=h.len;have U9:(jr f (P9 f.N (i:Int))).length=(P9 f.N (i:Int)).Z.length:=by rw[jr,length_map]
 have hv:∀s,TY f (f.Y+i) s=gM (P9 f.N (i:Int)) (nF s (jr f (P9 f.N (i:Int)))):=λs=>sm g hi;obtain⟨kc,kv⟩:=Ed g hi;refine bk (λh0=>?_) (λh0=>bk (λh3=>?_) (λh3=>bk (λh2=>?_) (λh2=>?_)))
 ·refine bk (λh1=>?_) (λh1=>?_)
  ·exact hQ [0] (pX.congr λs _=>by rw[hv,gM,if_pos h0,h1];rfl)
  ·exact hQ [] (uw.congr λs _=>by rw[hv,gM,if_pos h0];simp[h1])
 ·refine yM hn h om λm hm=>hQ m (hm.congr λs _=>?_);rw[hv,gM,if_neg h0,if_neg k1,if_neg om,if_pos h3];simp
 ·refine sO hn h om λm hm=>hQ m (hm.congr λs _=>?_);rw[hv,gM,if_neg h0,if_neg k1,if_pos h2,Bool.eq_iff_iff];simp only[decide_eq_true_eq,beq_iff_eq];omega
 ·have h4:(P9 f.N (i:Int)).U=4:=by have:=vt g hi k1 k5;omega
  have hk:=kv h4;obtain⟨k,he⟩:=eq_ofNat_of_zero_le (show(0:Int)<=(P9 f.N (i:Int)).K by omega);rw[he];refine K' hn h om om λm hm=>hQ m (hm.congr λs _=>?_);rw[hv,gM,if_neg h0,if_neg k1,if_neg h2,if_neg h3,if_pos h4,he,decide_eq_decide];omega
theorem IF(g:FG f){Q:List Bool->Prop}(hQ:Q (cU f f.N.length)):kP f Q:=uG g hQ
structure aeP(f:GFormula)(n i:Nat)(out:List (List Int)):Prop where
 len:out.length=f.N.length
 at_:∀k,k<i->Ul f k->∃m,P9 out (k:Int)=up m/\Qw n (TY f (f.Y+k)) m
theorem rl(h0:0<=a):(1:Int)*2^(toNat a)=((2^a.toNat:Nat):Int):=by rw[Int.one_mul];simp
theorem xR(h:p<256):Qe (p:Int):=by unfold Qe;omega
theorem km{a:Nat}(h:a<8):2^a<256:=lt_of_lt_of_le (Nat.pow_lt_pow_right (by decide) h) (by decide)
theorem EM(g:FG f)(hV:f.Y<=8)(hc:Vu f){Q:List (List Int)->Option Int->Prop}(hQ:∀out,aeP f f.Y.toNat f.N.length out->Q out none):gp f Q:=by
 have v0:=g.v0;have n128:=g.n128;have hb:=du g _ (Nat.le_refl _);have UX:=iT g f.N.length;refine js g (λ_=>?_) (λh=>absurd hc h);refine aB (λh=>by cases h) (λ_=>aB (λh=>by cases h) (λ_=>IF g ⟨⟨om,om,om,om⟩,?_⟩));refine bu (n:=f.N.length) (λi y=>y.1=(i:Int)/\aeP f f.Y.toNat i y.2) (λy=>y.1) 0 (λi y hy=>by rw[hy.1];omega) ⟨rfl,by simp[bA],λk hk=>absurd hk om⟩ ?_ ?_
 ·rintro i ⟨x,out⟩ next hi ⟨hx,hF⟩ Q6
  dsimp only at hx hF;subst hx;have hfl:=hF.len;refine Qb (λ_=>⟨om,Qo,om,aB (λhm=>?_) (λhm=>?_)⟩) (λhc=>absurd om hc)
  ·have Uo:¬Ul f i:=by simpa using hm
   refine⟨Qo,Q6 _ ⟨by (try dsimp only);omega,hfl,λk hk V9=>?_⟩⟩;rcases lt_or_ge k i with h|h;·exact hF.at_ k h V9
   ·grind
  ·have Uo:Ul f i:=by simpa using hm
   have N:=dq (g.node i hi);have n16:=N.len;refine bu (n:=(P9 f.N (i:Int)).Z.length) (λj y=>y.1=(j:Int)/\∃args:List (List Nat),y.2=args.map up/\UJ f.Y.toNat ((jr f (P9 f.N (i:Int))).take j) args) (λy=>y.1) 0 (λj y hy=>by rw[hy.1];omega) ⟨rfl,[],rfl,rfl,λk hk=>absurd hk Qy⟩ ?_ ?_
   ·rintro j ⟨y,Yq⟩ Qd hj ⟨hy,args,he,hA⟩ TL;dsimp only at hy he;subst hy he;have ha:=N.arg j hj;have U9:=hA.len;have hlj:j<(jr f (P9 f.N (i:Int))).length:=by grind [jr]
    rw[length_take,Nat.min_eq_left om]at U9;have VP:=vL (f:=f) (x:=P9 f.N (i:Int)) hj;have step:∀m,Qw f.Y.toNat (TY f (P9 (P9 f.N (i:Int)).Z (j:Int))) m->UJ f.Y.toNat ((jr f (P9 f.N (i:Int))).take (j+1)) (args++[m]):=λm hm=>by
     rw[VP];refine⟨by rw[length_append,length_append,hA.len];rfl,λk h1 h2=>?_⟩;rw[length_append,length_singleton]at h2;by_cases e:k<args.length;·rw[List.getElem_append_left (by rw[<-hA.len];exact e),List.getElem_append_left e];exact hA.at_ k _ e
     ·grind
    refine Qb (λ_=>⟨om,Qb (λQH=>?_) (λTV=>?_)⟩) (λhc=>absurd om hc);·have adU:(P9 (P9 f.N (i:Int)).Z (j:Int)).toNat<8:=om;have hp:=km adU;rw[rl ha.1];refine⟨⟨om,xR hp⟩,by rw[length_append,length_map];simp;omega,Qo,TL _ ⟨by (try dsimp only);omega,args++[[2^(P9 (P9 f.N (i:Int)).Z (j:Int)).toNat]],by rw[map_append];rfl,step _ ?_⟩⟩;exact(tv om).congr λs _=>by rw[zC ha.1 QH]
    ·obtain⟨k,hk⟩:∃k:Nat,P9 (P9 f.N (i:Int)).Z (j:Int)=f.Y+k:=⟨(P9 (P9 f.N (i:Int)).Z (j:Int)-f.Y).toNat,om⟩;have V9:Ul f k:=by have:=hb.cl i om hi Uo _ (qK hj);rwa[hk]at this
     obtain⟨m,em,cm⟩:=hF.at_ k om V9;have hs:=step m (by rw[hk];exact cm);rw[hk];rw[show f.Y+(k:Int)-f.Y=(k:Int)by omega,em];refine⟨Qo,om,by rw[length_append,length_map];simp;omega,Qo,TL _ ⟨by (try dsimp only);omega,args++[m],by rw[map_append];rfl,hs⟩⟩
   ·rintro⟨y,Yq⟩ Qd ⟨hy,args,he,hA⟩;dsimp only at hy he;subst hy he;rw[List.take_of_length_le (by rw[jr,length_map];exact Nat.le_refl _)]at hA;obtain⟨k1,k5⟩:=hc i hi Uo;refine Qb (λhc=>absurd hc om) (λ_=>La g om hi k1 k5 hA λm hm=>⟨om,aB (λhc=>by cases hc) (λ_=>⟨Qo,Q6 _ ⟨by (try dsimp only);omega,by (try dsimp only);rw[ck];exact hfl,λk hk V9=>?_⟩⟩)⟩);try dsimp only
    rw[dO om];by_cases e:k=i;·grind
    ·rw[if_neg e];exact hF.at_ k om V9
 ·grind [Qb]
theorem Ci(g:FG f)(hV:f.Y<=8)(hc:Vu f)(hQ:∀m,Qw f.Y.toNat (FV f) m->Q (up m) none):eZ f Q:=by
 have v0:=g.v0;have t0:=g.Sd;have tt:=g.top;have n128:=g.n128;refine EM g hV hc λout hF=>aB (λh=>by cases h) (λ_=>Qb (λQH=>?_) (λTV=>?_))
 ·have hp:=km (show f.A.toNat<8 by omega);rw[rl t0];refine⟨⟨om,xR hp⟩,hQ [2^f.A.toNat] ((tv om).congr λs _=>?_)⟩;rw[JE,zC t0 QH]
 ·obtain⟨k,hk⟩:∃k:Nat,f.A=f.Y+k:=⟨(f.A-f.Y).toNat,om⟩;have hb:=(du g _ (Nat.le_refl _)).top;rw[hk]at hb;obtain⟨m,em,cm⟩:=hF.at_ k om hb;have hl:=hF.len;rw[hk,show f.Y+(k:Int)-f.Y=(k:Int)by omega,em];refine⟨Qo,om,hQ m (cm.congr λs _=>?_)⟩;rw[JE,hk]
theorem Ab(g:FG f)(hc:¬Vu f)(hQ:Q [] (some 7)):eZ f Q:=by grind [eZ,gp,js,aB]
def gd(n:Nat)(F:Nat->Bool)(s:Nat):Bool:=!F (2^n-1-s)
theorem xm{n s:Nat}:∀L:List (Nat->Bool),nF s (L.map (gd n))+nF (2^n-1-s) L=L.length
 | []=>rfl
 | F::L=>by have:=xm (n:=n) (s:=s) L;rw[map_cons,nF,nF,length_cons,gd];cases F (2^n-1-s)<;>simp<;>omega
theorem CT(g:FG f)(hn:n<=8)(hi:i<f.N.length)(k1:(P9 f.N (i:Int)).U≠1)(k5:(P9 f.N (i:Int)).U≠5)(h:UJ n ((jr f (P9 f.N (i:Int))).map (gd n)) args){Q:List Int->Option Int->Prop}(hQ:∀m,Qw n (gd n (TY f (f.Y+i))) m->Q (up m) none):nq (P9 f.N (i:Int)) (args.map up) Q:=by
 have N:=dq (g.node i hi);have n16:=N.len;have hlen:=h.len;have U9:(jr f (P9 f.N (i:Int))).length=(P9 f.N (i:Int)).Z.length:=by rw[jr,length_map]
 have UX:((jr f (P9 f.N (i:Int))).map (gd n)).length=(P9 f.N (i:Int)).Z.length:=by rw[length_map,U9]
 have hv:∀s,TY f (f.Y+i) s=gM (P9 f.N (i:Int)) (nF s (jr f (P9 f.N (i:Int)))):=λs=>sm g hi;obtain⟨kc,kv⟩:=Ed g hi;refine bk (λh0=>?_) (λh0=>bk (λh3=>?_) (λh3=>bk (λh2=>?_) (λh2=>?_)))
 ·refine bk (λh1=>?_) (λh1=>?_)
  ·exact hQ [0] (pX.congr λs _=>by rw[gd,hv,gM,if_pos h0,h1];rfl)
  ·have Xq:(P9 f.N (i:Int)).K=1:=by have:=kc h0;omega
   exact hQ [] (uw.congr λs _=>by rw[gd,hv,gM,if_pos h0,Xq];rfl)
 ·refine Gr hn h om λm hm=>hQ m (hm.congr λs _=>?_);have:=xm (n:=n) (s:=s) (jr f (P9 f.N (i:Int)));rw[gd,hv,gM,if_neg h0,if_neg k1,if_neg om,if_pos h3,UX,Bool.eq_iff_iff];simp only[decide_eq_true_eq,not_eq_true',decide_eq_false_iff_not];omega
 ·refine D5 hn h om λm hm=>hQ m (hm.congr λs _=>?_);have:=xm (n:=n) (s:=s) (jr f (P9 f.N (i:Int)));rw[gd,hv,gM,if_neg h0,if_neg k1,if_pos h2,Bool.eq_iff_iff];simp only[decide_eq_true_eq,not_eq_true',beq_eq_false_iff_ne,ne_eq];omega
 ·have h4:(P9 f.N (i:Int)).U=4:=by have:=vt g hi k1 k5;omega
  have hk:=kv h4;obtain⟨k,he⟩:=eq_ofNat_of_zero_le (show(0:Int)<=(P9 f.N (i:Int)).K by omega);have ahJ:((args.map up).length:Int)=(args.length:Int):=by rw[length_map]
  rw[ahJ,he,show((args.length:Int)-(k:Int))+1=((args.length+1-k:Nat):Int)by omega];refine⟨Qo,Qo,CS hn h om om λm hm=>hQ m (hm.congr λs _=>?_)⟩;have:=xm (n:=n) (s:=s) (jr f (P9 f.N (i:Int)));rw[gd,hv,gM,if_neg h0,if_neg k1,if_neg h2,if_neg h3,if_pos h4,he,Bool.eq_iff_iff];simp only[decide_eq_true_eq,not_eq_true',decide_eq_false_iff_not];omega
structure Yu(f:GFormula)(n i:Nat)(list:List (List Int)):Prop where
 len:list.length=i
 at_:∀k:Nat,k<i->∃m,P9 list (k:Int)=up m/\Qw n (gd n (TY f k)) m
theorem Yu.snoc{list:List (List Int)}(h:Yu f n i list)(hm:Qw n (gd n (TY f i)) m):Yu f n (i+1) (list++[up m]):=by
 have hl:=h.len;refine⟨by rw[length_append,hl];rfl,λk hk=>?_⟩;by_cases e:k=i;·grind [lR]
 ·obtain⟨m',e',c⟩:=h.at_ k om;exact⟨m',by rw[mE om om];exact e',c⟩
theorem JA{t:GFormula}(g:FG t)(hV:t.Y<=8)(hc:∀i,i<t.N.length->(P9 t.N (i:Int)).U≠1/\(P9 t.N (i:Int)).U≠5)(hQ:∀m,Qw t.Y.toNat (gd t.Y.toNat (FV t)) m->Q (up m) none) :Qe (t.Y+(t.N.length:Int))/\jo 24 0 (t.Y+(t.N.length:Int))/\ aO (σ:=Int×(List (List Int))) (0,(bA 0 [])) λ⟨x,list⟩ Qc=>
    af (decide (x<t.Y))
     ((((0:Int)<=x/\x<=64)/\Qe (1*2^(toNat x)))/\
     ((list++[[(1*2^(toNat x))]]).length*24<=140737488355328)/\
     Qe (x+1)/\
     Qc ((x+1),(list++[[(1*2^(toNat x))]])))
     (aO (σ:=Int×(List (List Int))) (0,list) λ⟨x1,QU⟩ Qd=>
      af (decide (x1<(t.N.length:Int)))
       (((0:Int)<=x1/\x1<(t.N.length:Int))/\
       aO (σ:=Int×(List (List Int))) (0,[]) λ⟨x2,args⟩ next3=>
        af (decide (x2<(((P9 t.N x1).Z).length:Int)))
         (((0:Int)<=x2/\x2<(((P9 t.N x1).Z).length:Int))/\
         ((0:Int)<=(P9 ((P9 t.N x1).Z) x2)/\(P9 ((P9 t.N x1).Z) x2)<(QU.length:Int))/\
         ((args++[(P9 QU (P9 ((P9 t.N x1).Z) x2))]).length*24<=140737488355328)/\
         Qe (x2+1)/\
         next3 ((x2+1),(args++[(P9 QU (P9 ((P9 t.N x1).Z) x2))])))
         (nq (P9 t.N x1) args λr2 r3=>
         af (isSome r3)
          (Q [] r3)
          (((QU++[r2]).length*24<=140737488355328)/\
          Qe (x1+1)/\
          Qd ((x1+1),(QU++[r2])))))
       (((0:Int)<=t.A/\t.A<(QU.length:Int))/\
       bY (P9 QU t.A) λr4=>
       Q r4 none)):=by
 have v0:=g.v0;have t0:=g.Sd;have tt:=g.top;have n128:=g.n128;obtain⟨n,hn⟩:∃n:Nat,t.Y=(n:Int):=⟨t.Y.toNat,om⟩;have hnt:t.Y.toNat=n:=om;rw[hnt]at hQ;refine⟨Qo,⟨om,om,om,om⟩,?_⟩;refine bu (n:=n) (λi y=>y.1=(i:Int)/\Yu t n i y.2) (λy=>y.1) 0 (λi y hy=>by rw[hy.1];omega) ⟨rfl,by simp[bA],λk hk=>absurd hk om⟩ ?_ ?_
 ·rintro i ⟨x,list⟩ next hi ⟨hx,hF⟩ Q6
  dsimp only at hx hF;subst hx;have hl:=hF.len;refine Qb (λ_=>?_) (λhc=>absurd om hc);have hp:=km (show i<8 by omega);rw[rl om,toNat_natCast];refine⟨⟨om,xR hp⟩,by rw[length_append];simp;omega,Qo,Q6 _ ⟨by (try dsimp only);omega,?_⟩⟩;refine hF.snoc (m:=[2^i]) ((tv hi).congr λs hs=>?_);rw[gd,zC om om,toNat_natCast,vF hs];simp[hi]
 rintro⟨x,list⟩ next ⟨hx,hF⟩
 dsimp only at hx hF;subst hx;refine Qb (λhc=>absurd hc om) (λ_=>?_)
 refine bu (n:=t.N.length) (λi y=>y.1=(i:Int)/\Yu t n (n+i) y.2) (λy=>y.1) 0 (λi y hy=>by rw[hy.1];omega) ⟨rfl,hF⟩ ?_ ?_
 ·rintro i ⟨x,QU⟩ Qd hi ⟨hx,hF1⟩ Q6;dsimp only at hx hF1;subst hx;have Tk:=hF1.len;have N:=dq (g.node i hi);have n16:=N.len;refine Qb (λ_=>⟨om,?_⟩) (λhc=>absurd om hc);refine bu (n:=(P9 t.N (i:Int)).Z.length) (λj y=>y.1=(j:Int)/\∃args:List (List Nat),y.2=args.map up/\UJ n (((jr t (P9 t.N (i:Int))).take j).map (gd n)) args) (λy=>y.1) 0 (λj y hy=>by rw[hy.1];omega) ⟨rfl,[],rfl,rfl,λk hk=>absurd hk Qy⟩ ?_ ?_
  ·rintro j ⟨y,Yq⟩ next3 hj ⟨hy,args,he,hA⟩ WC;dsimp only at hy he;subst hy he;have ha:=N.arg j hj;have U9:=hA.len;have hlj:j<(jr t (P9 t.N (i:Int))).length:=by grind [jr]
   rw[length_map,length_take,Nat.min_eq_left om]at U9;obtain⟨k,hk⟩:=eq_ofNat_of_zero_le ha.1;obtain⟨m,em,cm⟩:=hF1.at_ k om;have VP:((jr t (P9 t.N (i:Int))).take (j+1)).map (gd n)=((jr t (P9 t.N (i:Int))).take j).map (gd n)++[gd n (TY t (k:Int))]:=by grind [vL]
   dsimp only;rw[hk,em];refine Qb (λ_=>⟨om,om,by rw[length_append,length_map];simp;omega,Qo,WC _ ⟨by (try dsimp only);omega,args++[m],by rw[map_append];rfl,?_⟩⟩) (λhc=>absurd om hc);rw[VP];refine⟨by rw[length_append,length_append,hA.len];rfl,λq h1 h2=>?_⟩;rw[length_append,length_singleton]at h2;by_cases e:q<args.length;·rw[List.getElem_append_left (by rw[<-hA.len];exact e),List.getElem_append_left e];exact hA.at_ q _ e
   ·grind
  ·rintro⟨y,Yq⟩ next3 ⟨hy,args,he,hA⟩;dsimp only at hy he;subst hy he;rw[List.take_of_length_le (by rw[jr,length_map];exact Nat.le_refl _)]at hA;obtain⟨k1,k5⟩:=hc i hi;refine Qb (λhc=>absurd hc om) (λ_=>CT g om hi k1 k5 hA λm hm=>aB (λhc=>by cases hc) (λ_=>⟨by rw[length_append];simp;omega,Qo,Q6 _ ⟨by (try dsimp only);omega,?_⟩⟩));refine hF1.snoc ?_;rwa[hn,show((n:Int)+(i:Int))=((n+i:Nat):Int)by omega]at hm
 ·rintro⟨x,QU⟩ Qd ⟨hx,hF1⟩;dsimp only at hx hF1;subst hx;have Tk:=hF1.len;obtain⟨k,hk⟩:=eq_ofNat_of_zero_le t0;obtain⟨m,em,cm⟩:=hF1.at_ k om;have UX:=(cm.Zp om).le;refine Qb (λhc=>absurd hc om) (λ_=>⟨om,?_⟩)
  rw[hk,em];exact F_ (by rw[cC];omega) (hQ m (cm.congr λs _=>by rw[gd,gd,JE,hk]))
theorem Cf(g:FG f)(hV:f.Y<=8)(hc:Vu f)(hQ:∀m,Qw f.Y.toNat (gd f.Y.toNat (FV f)) m->Q (up m) none):eA f Q:=by
 unfold eA lU;refine js g (λ_=>ol (aB (λ_=>aB (λh=>by cases h) (λ_=>aB (λh=>by cases h) (λ_=>?_))) (λh=>by cases h))) (λh=>absurd hc h);refine Js g (aB (λh=>by cases h) (λ_=>JA (t:=Tw f) (HB g) hV (λn hn=>?_) (λm hm=>hQ m (hm.congr λs _=>by
  show gd f.Y.toNat (FV (Tw f)) s=_;rw[gd,gd,NU g]))))
 obtain⟨i,hi,hm,rfl⟩:=Bl g n hn;have Tg:P9 (Tw f).N (cM f i:Int)=_:=uN hm hi;rw[Tg];exact hc i hi hm
theorem Jz(g:FG f)(hc:¬Vu f)(hQ:Q [] (some 7)):eA f Q:=by grind [eA,lU,js,ol,aB]
end
theorem Pe(hx:x<256)(hi:i<24){Q:Bool->Prop}(h:Q (x.testBit i)):sX (x:Int) (i:Int) Q:=by refine Qb (λ_=>Qb (λ_=>⟨om,?_⟩) (λhc=>absurd om hc)) (λhc=>absurd om hc);rw[Jk om,Ta];exact h
theorem DZ:((range (i+1)).filter λj=>s.testBit j).map (λj=>2^j)=((range i).filter λj=>s.testBit j).map (λj=>2^j)++(if s.testBit i=true then [2^i]else []):=by grind [List.range_succ]
theorem O8(hx:x<256)(h:x.testBit i=true):i<8:=by
 rcases lt_or_ge i 8 with h1|h1;·exact h1
 ·rw[testBit_lt_two_pow (lt_of_lt_of_le hx (pow_le_pow_right (n:=2) (i:=8) (j:=i) (by decide) h1))]at h;cases h
theorem yx{a b:Nat}:C7 a b↔a &&& b≠0:=by
 constructor;·rintro⟨i,h1,h2⟩ h;have:=congrArg (λx=>Nat.testBit x i) h;simp[testBit_and,h1,h2]at this
 ·intro h;obtain⟨i,hi⟩:=Nat.exists_testBit_of_ne_zero h;rw[testBit_and,and_eq_true]at hi;exact⟨i,hi.1,hi.2⟩
theorem OH(hn:n<=8){p:List Nat}(hp:Qw n (gd n F) p)(hQ:∀m,Qw n F m->Q (up m) none):ii (up p) Q:=by
 refine Hg (hp.Zp hn) λr hr hs ahC=>aB (λh=>by cases h) (λ_=>?_)
 have Vj:∀t,t∈r->t<2^n:=λt ht=>hp.lt t (hs t ht);have hr8:∀t∈r,t<256:=λt ht=>(hp.Zp hn).lt t (hs t ht);have hlen:=xp hr hr8;have SS:((up r).length:Int)=(r.length:Int):=by rw[cC]
 refine bu (n:=r.length) (λi y=>y.2=(i:Int)/\∃m,y.1=up m/\Qw n (λs=>decide (∀q,q∈r.take i->q &&& s≠0)) m) (λy=>y.2) 0 (λi y hy=>by rw[hy.1];omega) ⟨rfl,[0],rfl,pX.congr λs _=>by simp⟩ ?_ ?_
 ·rintro i ⟨o,x⟩ next hi ⟨hx,m,hm,hc⟩ Q6
  dsimp only at hx hm;subst hx hm;have hq:=hr8 _ (getElem_mem hi);refine Qb (λ_=>⟨by rw[SS];omega,?_⟩) (λhc=>absurd (by rw[SS];omega) hc);rw[qA hi];refine gB (n:=24) (λj=>((j:Int),up (((range j).filter λq=>(r[i]).testBit q).map λq=>2^q))) (λy=>y.1) 0 (λj=>by (try dsimp only);omega) rfl ?_ ?_
  ·intro j Qd hj TL;have hle:(((range j).filter λq=>(r[i]).testBit q).map λq=>2^q).length<=24:=by grind
   refine Qb (λ_=>?_) (λhc=>absurd (by (try dsimp only);omega) hc);rw[DZ]at TL;refine Pe hq hj (aB (λhb=>?_) (λhb=>?_))
   ·rw[if_pos hb,Bj]at TL;have h8:=O8 hq hb;have T6:=km h8;try dsimp only
    rw[rl om,toNat_natCast];exact⟨⟨om,xR T6⟩,by rw[length_append,cC,length_singleton];omega,Qo,by simpa[up]using TL⟩
   ·grind [Qe]
  ·intro Qd;refine Qb (λhc=>absurd hc (by (try dsimp only);omega)) (λ_=>?_)
   try dsimp only
   have adm:Xb (H1 r[i]):=⟨by
     rw[H1,length_map];exact Nat.le_trans (List.length_filter_le _ _) (by rw[List.length_range];omega),λt ht=>by
     obtain⟨q,hq2,rfl⟩:=List.mem_map.1 ht;rw[List.mem_filter]at hq2;exact km (O8 hq hq2.2)⟩
   refine Bb (hc.Zp hn) adm λm' Uo hs' WG=>aB (λhc=>by cases hc) (λ_=>⟨Qo,Q6 _ ⟨by (try dsimp only);omega,m',rfl,Uo,λt ht=>?_,λs TT=>?_⟩⟩)
   ·refine xc hc.lt (λy hy=>?_) t (hs' t ht);obtain⟨q,hq2,rfl⟩:=List.mem_map.1 hy;rw[List.mem_filter]at hq2;refine Nat.pow_lt_pow_right (by decide) ?_;rcases lt_or_ge q n with h1|h1;·exact h1
    ·grind [testBit_lt_two_pow,lt_of_lt_of_le,pow_le_pow_right]
   ·rw[WG,ux,hc.cv s TT];refine(and_congr_right λ_=>I8 (lt_trans hq (by decide))).trans ?_;rw[fS hi];simp only[decide_eq_true_eq,List.mem_append,mem_singleton];have adS:C7 r[i] s↔r[i] &&& s≠0:=yx;rw[adS];constructor;·grind
    ·simp_all
 ·rintro⟨o,x⟩ next ⟨hx,m,hm,hc⟩
  dsimp only at hx hm;subst hx hm;refine Qb (λhc=>absurd hc (by rw[SS];omega)) (λ_=>hQ m (hc.congr λs TT=>?_));rw[take_length,Bool.eq_iff_iff,decide_eq_true_eq,<-K1 (F:=F) (P:=r) Vj (λu hu=>by rw[ahC,hp.cv u hu,gd,not_eq_true']) TT];exact⟨λh q hq=>yx.2 (h q hq),λh q hq=>yx.1 (h q hq)⟩
section
variable{α:Type}[Inhabited α]
theorem atS{l:List α}{x:α}{j:Int}(ha:0<=a/\a<l.length)(hj:0<=j):P9 (Qt l a x) j=if j=a then x else P9 l j:=by grind [eq_ofNat_of_zero_le,dO]
def sw(l:List α)(i j:Int):List α:=Qt (Qt l i (P9 l j)) j (P9 l i)
theorem Am{l:List α}{i j x:Int}(hi:0<=i/\i<l.length)(hj:0<=j/\j<l.length)(hx:0<=x):P9 (sw l i j) x=if x=j then P9 l i else if x=i then P9 l j else P9 l x:=by grind [sw,atS,ck]
theorem E8{l:List α}{i j:Int}(hi:0<=i/\i<l.length)(hj:0<=j/\j<l.length):(sw l i j).Perm l:=by grind [Qt,P9,sw,List.set_set_perm]
structure SX(a b:Int)(d e:List α):Prop where
 perm:e.Perm d
 out:∀x,0<=x->(x<a\/b<=x)->P9 e x=P9 d x
 ins:∀p:α->Prop,(∀y,a<=y->y<b->p (P9 d y))->∀y,a<=y->y<b->p (P9 e y)
theorem SX.refl{a b:Int}{d:List α}:SX a b d d:=⟨.refl _,λ_ _ _=>rfl,λ_ h=>h⟩
theorem SX.len{d e:List α}(h:SX a b d e):e.length=d.length:=h.perm.length_eq
theorem SX.trans{a b:Int}{d e f:List α}(h:SX a b d e)(k:SX a b e f):SX a b d f:=⟨k.perm.trans h.perm,λx h0 hx=>(k.out x h0 hx).trans (h.out x h0 hx),λp hp=>k.ins p (h.ins p hp)⟩
theorem SX.mono{a' b':Int}{d e:List α}(h:SX a b d e)(h0:0<=a')(ha:a'<=a)(hb:b<=b'):SX a' b' d e:=⟨h.perm,λx h1 hx=>h.out x h1 om,λp hp y h1 h2=>by
  by_cases hy:a<=y/\y<b;·exact h.ins p (λz h3 h4=>hp z om om) y hy.1 hy.2
  ·rw[h.out y om om];exact hp y h1 h2⟩
theorem HR{i j:Int}{l:List α}(h0:0<=a)(hb:b<=l.length)(hi:a<=i/\i<b)(hj:a<=j/\j<b):SX a b l (sw l i j):=⟨E8 om om,λx h1 hx=>by rw[Am om om h1,if_neg om,if_neg om],λp hp y h1 h2=>by
  rw[Am om om om];split;·exact hp i hi.1 hi.2
  ·split;·exact hp j hj.1 hj.2
   ·exact hp y h1 h2⟩
end
structure Keys(ok:Grow->Prop)(k:Grow->Int):Prop where
 cmp:∀a b,ok a->ok b->∀Q:Int->Prop,Q (k a-k b)->dH a b Q
def Sg(k:Grow->Int)(a b:Int)(d:List Grow):Prop:=∀x y,a<=x->x<=y->y<b->k (P9 d x)<=k (P9 d y)
variable{d:List Grow}
section
variable{ok:Grow->Prop}{k:Grow->Int}
theorem Keys.det(h:Keys ok k){a b:Grow}(ha:ok a)(hb:ok b){K:Int->Prop}(hK:K (k a-k b)):my (dH a b) K:=⟨_,h.cmp a b ha hb _ rfl,hK⟩
theorem wb(h:∀x∈d,ok x){i:Int}(hi:0<=i/\i<d.length):ok (P9 d i):=by grind [P9]
theorem SX.ZR{e:List Grow}(h:SX a b d e)(ho:∀x∈d,ok x):∀x∈e,ok x:=λx hx=>ho x (h.perm.mem_iff.1 hx)
theorem Br(h0:0<=a)(Xp:a+n<=b)(hb:b+n<=d.length)(hl:d.length<=100000){Q:List Grow->Prop}(hQ:∀e:List Grow,e.Perm d->(∀x,0<=x->P9 e x=if a<=x/\x<a+n then P9 d (x-a+b)else if b<=x/\x<b+n then P9 d (x-b+a)else P9 d x)->Q e):bz a b (n:Int) d Q:=by
 refine bu (n:=n) (λi y=>y.1=(i:Int)/\y.2.Perm d/\∀x,0<=x->P9 y.2 x=if a<=x/\x<a+i then P9 d (x-a+b)else if b<=x/\x<b+i then P9 d (x-b+a)else P9 d x) (λy=>y.1) 0 (λi y hy=>by rw[hy.1];omega) ⟨rfl,.refl _,λx hx=>by rw[if_neg om,if_neg om]⟩ ?_ ?_
 ·rintro i ⟨x,e⟩ next hi ⟨hx,hp,hI⟩ Q6
  dsimp only at hx hp hI;subst hx;have hle:=hp.length_eq;refine Qb (λ_=>⟨Qo,Qo,Qo,om,Qo,om,om,om,Qo,Q6 _ ⟨by (try dsimp only);omega,(E8 (i:=a+i) (j:=b+i) om om).trans hp,λx hx=>?_⟩⟩) (λhc=>absurd om hc);refine(Am (i:=a+i) (j:=b+i) om om hx).trans ?_;have ea:P9 e (a+i)=P9 d (a+i):=by grind
  have eb:P9 e (b+i)=P9 d (b+i):=by grind
  rw[ea,eb,hI x hx];by_cases e1:x=b+i;·rw[if_pos e1,if_neg om,if_pos om];congr 1;omega
  rw[if_neg e1];by_cases e2:x=a+i;·rw[if_pos e2,if_pos om];congr 1;omega
  rw[if_neg e2];by_cases e3:a<=x/\x<a+i;·grind
  by_cases e4:b<=x/\x<b+i;·grind
  ·grind
 ·grind [Qb]
def qO(d:List Grow)(a i j x:Int):Grow:=if a<=x/\x<a+j then P9 d (x+i)else if a+j<=x/\x<a+i+j then P9 d (x-j)else P9 d x
theorem H8{m:Int}(h0:0<=a)(h1:a<m)(h2:m<b)(hb:b<=d.length)(hl:d.length<=100000){Q:List Grow->Prop}(hQ:∀e:List Grow,e.Perm d->(∀x,0<=x->P9 e x=qO d a (m-a) (b-m) x)->Q e):b_ a m b d Q:=by
 refine⟨Qo,Qo,?_⟩;refine⟨λy=>(0<y.1/\0<y.2.1/\y.1<=m-a/\y.2.1<=b-m)/\y.2.2.Perm d/\∀x,0<=x->qO d a (m-a) (b-m) x=qO y.2.2 (m-y.1) y.1 y.2.1 x,λy=>(y.1+y.2.1).toNat,⟨⟨by (try dsimp only);omega,by (try dsimp only);omega,le_refl _,le_refl _⟩,.refl _,λx _=>by try dsimp only;congr 1;omega⟩,?_⟩;rintro⟨i,j,e⟩ ⟨⟨p1,p2,p3,p4⟩,hp,hT⟩;dsimp only at p1 p2 p3 p4 hp hT;have hle:=hp.length_eq;obtain⟨i',Q9⟩:=eq_ofNat_of_zero_le (show 0<=i by omega);obtain⟨j',SU⟩:=eq_ofNat_of_zero_le (show 0<=j by omega);refine iY (λQI=>Qb (λhc=>?_) (λhc=>?_)) (λheq=>?_)
 ·refine⟨Qo,?_⟩;rw[SU];refine Br om om om om λe2 T6 h2=>⟨T6.length_eq,Qo,⟨⟨by (try dsimp only);omega,by (try dsimp only);omega,by (try dsimp only);omega,by (try dsimp only);omega⟩,T6.trans hp,λx hx=>?_⟩,by (try dsimp only);omega⟩;try dsimp only
  rw[hT x hx];unfold qO;rw[<-SU]at h2 ⊢;by_cases c1:x<m-i;·grind
  by_cases c2:x<m-i+j;·grind
  by_cases c3:x<m-i+2*j;·grind
  by_cases c4:x<m+j;·grind
  ·grind
 ·refine⟨Qo,Qo,Qo,?_⟩;rw[Q9];refine Br om om om om λe2 T6 h2=>⟨T6.length_eq,Qo,⟨⟨by (try dsimp only);omega,by (try dsimp only);omega,by (try dsimp only);omega,by (try dsimp only);omega⟩,T6.trans hp,λx hx=>?_⟩,by (try dsimp only);omega⟩;try dsimp only
  rw[hT x hx];unfold qO;rw[<-Q9]at h2 ⊢;by_cases c1:x<m-i;·grind
  by_cases c2:x<m-i+(j-i);·grind
  by_cases c3:x<m+j-i;·grind
  by_cases c4:x<m+j;·grind
  ·grind
 ·refine⟨Qo,?_⟩;rw[Q9];refine Br om om om om λe2 T6 h2=>⟨T6.length_eq,hQ e2 (T6.trans hp) λx hx=>?_⟩;rw[hT x hx];unfold qO;rw[<-Q9]at h2;by_cases c1:x<m-i;·grind
  by_cases c2:x<m;·grind
  by_cases c4:x<m+j;·grind
  ·grind
theorem IU(C:Keys ok k)(h0:0<=a)(ha:a<=100000)(hb:b<=d.length)(hl:d.length<=100000)(ho:∀x∈d,ok x){Q:List Grow->Prop}(hQ:∀e:List Grow,SX a b d e->Sg k a b e->Q e):bG a b d Q:=by
 refine⟨Qo,?_⟩;refine⟨λy=>a+1<=y.1/\(y.1<=b\/y.1=a+1)/\SX a b d y.2/\Sg k a y.1 y.2,λy=>(b-y.1).toNat,⟨le_refl _,.inr rfl,.refl,λx y h1 h2 h3=>by
  obtain rfl:x=y:=by dsimp only at h3;omega
  exact le_refl _⟩,?_⟩
 rintro⟨i,e⟩ ⟨hi,hib,hm,hs⟩;dsimp only at hi hib hm hs;have TW:=hm.len;refine Qb (λhc=>?_) (λhc=>?_)
 ·refine⟨λy=>a<=y.1/\y.1<=i/\SX a b d y.2/\(∀x z,a<=x->x<=z->z<=i->x≠y.1->z≠y.1->k (P9 y.2 x)<=k (P9 y.2 z))/\∀z,y.1<z->z<=i->k (P9 y.2 y.1)<=k (P9 y.2 z),λy=>y.1.toNat,⟨by (try dsimp only);omega,le_refl _,hm,λx z h1 h2 h3 h4 h5=>hs x z h1 h2 (by dsimp only at h5;omega),λz h1 h2=>by dsimp only at h1;omega⟩,?_⟩;rintro⟨j,e2⟩ ⟨hj,VY,VX,hA,hB⟩;dsimp only at hj VY VX hA hB;have amP:=VX.len;have ho2:=VX.ZR ho;have done:(∀x,a<=x->x<j->k (P9 e2 x)<=k (P9 e2 j))->(λz:Int×List Grow=>(a+1<=z.1/\(z.1<=b\/z.1=a+1)/\SX a b d z.2/\Sg k a z.1 z.2)/\(b-z.1).toNat<(b-i).toNat) ((i+1),e2):=λYG=>by
   refine⟨⟨by (try dsimp only);omega,.inl (by (try dsimp only);omega),VX,λx z h1 h2 h3=>?_⟩,by (try dsimp only);omega⟩;try dsimp only at h3 ⊢
   by_cases e1:x=j;·grind
   ·grind
  refine Qb (λSw=>⟨om,Qo,om,C.det (wb ho2 om) (wb ho2 om) (Qb (λYH=>?_) (λYH=>⟨Qo,done λx h1 h2=>?_⟩))⟩) (λSw=>⟨Qo,done λx h1 h2=>om⟩)
  ·have hsw:∀x,0<=x->P9 (sw e2 j (j-1)) x=if x=j-1 then P9 e2 j else if x=j then P9 e2 (j-1)else P9 e2 x:=λx hx=>Am om om hx
   refine⟨Qo,Qo,om,om,om,om,Qo,⟨by (try dsimp only);omega,by (try dsimp only);omega,VX.trans (HR (i:=j) (j:=j-1) h0 om om om),λx z h1 h2 h3 h4 h5=>?_,λz h1 h2=>?_⟩,by (try dsimp only);omega⟩
   ·dsimp only at h4 h5 ⊢;refine le_trans (le_of_eq (congrArg k (hsw x om))) (le_trans ?_ (le_of_eq (congrArg k (hsw z om).symm)));rw[if_neg h4,if_neg h5];by_cases e1:x=j
    ·rw[if_pos e1];by_cases e3:z=j;·simp_all
     ·rw[if_neg e3];exact hA (j-1) z om om h3 om e3
    ·rw[if_neg e1];by_cases e3:z=j;·rw[if_pos e3];exact hA x (j-1) h1 om om e1 om
     ·simp_all
   ·dsimp only at h1 ⊢;refine le_trans (le_of_eq (congrArg k (hsw (j-1) om))) (le_trans ?_ (le_of_eq (congrArg k (hsw z om).symm)));rw[if_pos rfl,if_neg om];by_cases e3:z=j;·rw[if_pos e3];omega
    ·grind
  ·by_cases e1:x=j-1;·subst e1;omega
   ·have:=hA x (j-1) h1 om om om om;omega
 ·refine hQ e hm λx y h1 h2 h3=>hs x y h1 h2 om
theorem BR{x y:Int}(hx:0<=x)(hy:0<=y)(h:x+y<=1000000):wrap .i64 ((wrap .u64 (x+y))/2^(toNat 1))=(x+y)/2:=by grind [Qj,RX]
theorem E7(C:Keys ok k):∀(c fu:Nat) (a m b:Int) (d:List Grow) (Q:List Grow->Prop),b-a<=c->c<fu->0<=a->a<m->m<b->b<=d.length->d.length<=100000->(∀x∈d,ok x)->Sg k a m d->Sg k m b d->(∀e:List Grow,SX a b d e->Sg k a b e->Q e)->aL fu a m b d Q
 | 0,_,a,m,b,_,_,hc,_,h0,h1,h2,_,_,_,_,_,_=>om
 | c+1,0,_,_,_,_,_,_,hf,_,_,_,_,_,_,_,_,_=>om
 | c+1,fu+1,a,m,b,d,Q,hc,hf,h0,h1,h2,hb,hl,ho,hU,hV,hQ=>by
  rw[aL];refine⟨Qo,bk (λhma=>?_) (λhma=>⟨Qo,bk (λhbm=>?_) (λhbm=>?_)⟩)⟩
  ·
   refine⟨λy=>(m<=y.1/\y.1<=y.2/\y.2<=b)/\(∀x,m<=x->x<y.1->k (P9 d x)<k (P9 d a))/\∀x,y.2<=x->x<b->k (P9 d a)<=k (P9 d x),λy=>(y.2-y.1).toNat,⟨⟨le_refl _,by (try dsimp only);omega,le_refl _⟩,λx p q=>by dsimp only at q;omega,λx p q=>by dsimp only at p;omega⟩,?_⟩;rintro⟨i,j⟩ ⟨⟨p1,p2,p3⟩,hA,hB⟩;dsimp only at p1 p2 p3 hA hB;refine Qb (λSv=>⟨Qo,?_⟩) (λSv=>?_)
   ·intro h hh;rw[BR om om om]at hh;subst hh;refine⟨om,om,C.det (wb ho om) (wb ho om) (Qb (λQH=>⟨Qo,⟨⟨by (try dsimp only);omega,by (try dsimp only);omega,p3⟩,λx q1 q2=>?_,hB⟩,by (try dsimp only);omega⟩) (λQH=>⟨⟨⟨p1,by (try dsimp only);omega,by (try dsimp only);omega⟩,hA,λx q1 q2=>?_⟩,by (try dsimp only);omega⟩))⟩;·have:=hV x ((i+j)/2) q1 (by dsimp only at q2;omega) om;omega
    ·have:=hV ((i+j)/2) x om q1 q2;omega
   ·obtain rfl:i=j:=om;refine⟨λy=>(a<=y.1/\y.1<=i-1)/\SX a b d y.2/\∀x,0<=x->P9 y.2 x=if a<=x/\x<y.1 then P9 d (x+1)else if x=y.1 then P9 d a else P9 d x,λy=>(i-y.1).toNat,⟨⟨le_refl _,by (try dsimp only);omega⟩,.refl,λx hx=>?_⟩,?_⟩;·grind
    rintro⟨q,e⟩ ⟨⟨q1,q2⟩,hm,hI⟩;dsimp only at q1 q2 hm hI;have TW:=hm.len;refine⟨Qo,Qb (λhq=>?_) (λhq=>?_)⟩
    ·refine⟨Qo,Qo,om,om,om,om,Qo,⟨⟨by (try dsimp only);omega,by (try dsimp only);omega⟩,hm.trans (HR (i:=q) (j:=q+1) h0 om om om),λx hx=>?_⟩,by (try dsimp only);omega⟩;try dsimp only
     refine(Am (i:=q) (j:=q+1) om om hx).trans ?_;have ea:P9 e q=P9 d a:=by grind
     have eb:P9 e (q+1)=P9 d (q+1):=by grind
     rw[ea,eb,hI x hx];by_cases e1:x=q+1;·simp_all
     rw[if_neg e1];by_cases e2:x=q;·grind
     rw[if_neg e2];by_cases e3:a<=x/\x<q;·grind
     ·grind
    ·obtain rfl:q=i-1:=om;refine hQ e hm λx y r1 r2 r3=>?_;rw[hI x om,hI y om];by_cases e1:x<i-1
     ·rw[if_pos om];have hx:=hA (x+1) om om;by_cases e2:y<i-1;·rw[if_pos om];exact hV (x+1) (y+1) om om om
      ·grind
     ·rw[if_neg om,if_neg (by omega:¬(a<=y/\y<i-1))];by_cases e3:x=i-1;·grind
      ·rw[if_neg e3,if_neg om];exact hV x y om r2 r3
  ·
   refine⟨λy=>(a<=y.1/\y.1<=y.2/\y.2<=m)/\(∀x,a<=x->x<y.1->k (P9 d x)<=k (P9 d m))/\∀x,y.2<=x->x<m->k (P9 d m)<k (P9 d x),λy=>(y.2-y.1).toNat,⟨⟨le_refl _,by (try dsimp only);omega,le_refl _⟩,λx p q=>by dsimp only at q;omega,λx p q=>by dsimp only at p;omega⟩,?_⟩;rintro⟨i,j⟩ ⟨⟨p1,p2,p3⟩,hA,hB⟩;dsimp only at p1 p2 p3 hA hB;refine Qb (λSv=>⟨Qo,?_⟩) (λSv=>?_)
   ·intro h hh;rw[BR om om om]at hh;subst hh;refine⟨om,om,C.det (wb ho om) (wb ho om) (aB (λQH=>⟨Qo,⟨⟨by (try dsimp only);omega,by (try dsimp only);omega,p3⟩,λx q1 q2=>?_,hB⟩,by (try dsimp only);omega⟩) (λQH=>⟨⟨⟨p1,by (try dsimp only);omega,by (try dsimp only);omega⟩,hA,λx q1 q2=>?_⟩,by (try dsimp only);omega⟩))⟩;·have:=hU x ((i+j)/2) q1 (by dsimp only at q2;omega) om;simp only[not_eq_true',decide_eq_false_iff_not]at QH;omega
    ·have:=hU ((i+j)/2) x om q1 q2;simp only[Bool.not_eq_false',decide_eq_true_eq]at QH;omega
   ·obtain rfl:i=j:=om;refine⟨λy=>(i<=y.1/\y.1<=m)/\SX a b d y.2/\∀x,0<=x->P9 y.2 x=if y.1<x/\x<=m then P9 d (x-1)else if x=y.1 then P9 d m else P9 d x,λy=>y.1.toNat,⟨⟨by (try dsimp only);omega,le_refl _⟩,.refl,λx hx=>?_⟩,?_⟩;·grind
    rintro⟨q,e⟩ ⟨⟨q1,q2⟩,hm,hI⟩;dsimp only at q1 q2 hm hI;have TW:=hm.len;refine Qb (λhq=>?_) (λhq=>?_)
    ·refine⟨Qo,Qo,om,om,om,om,Qo,⟨⟨by (try dsimp only);omega,by (try dsimp only);omega⟩,hm.trans (HR (i:=q) (j:=q-1) h0 om om om),λx hx=>?_⟩,by (try dsimp only);omega⟩;try dsimp only
     refine(Am (i:=q) (j:=q-1) om om hx).trans ?_;have ea:P9 e q=P9 d m:=by grind
     have eb:P9 e (q-1)=P9 d (q-1):=by grind
     rw[ea,eb,hI x hx];by_cases e1:x=q-1;·simp_all
     rw[if_neg e1];by_cases e2:x=q;·grind
     rw[if_neg e2];by_cases e3:q<x/\x<=m;·grind
     ·grind
    ·obtain rfl:q=i:=om;refine hQ e hm λx y r1 r2 r3=>?_;rw[hI x om,hI y om];by_cases e1:x<q
     ·rw[if_neg om,if_neg om];have hx:=hA x r1 e1;by_cases e2:y<q;·rw[if_neg om,if_neg om];exact hU x y r1 r2 om
      ·grind
     ·by_cases e3:x=q;·grind
      ·rw[if_pos om,if_pos om];exact hU (x-1) (y-1) om om om
  ·
   refine⟨Qo,?_⟩;intro QQ ag7;rw[BR om om om]at ag7;refine⟨Qo,?_⟩;refine⟨λy=>(a<=y.1/\y.1<=y.2/\y.2<=m/\y.2<=QQ/\m<=QQ+m-y.2/\QQ+m-y.1<=b)/\(y.1=a\/QQ+m-y.1=b)/\(y.2=m\/y.2=QQ),Qb (λQH=>⟨Qo,⟨by (try dsimp only);omega,by (try dsimp only);omega,by (try dsimp only);omega,by (try dsimp only);omega,by (try dsimp only);omega,by (try dsimp only);omega⟩,.inr (by (try dsimp only);omega),.inr rfl⟩) (λQH=>⟨⟨le_refl _,by (try dsimp only);omega,le_refl _,by (try dsimp only);omega,by (try dsimp only);omega,by (try dsimp only);omega⟩,.inl rfl,.inl rfl⟩),?_⟩;rintro⟨s0,r0⟩ ⟨⟨t1,t2,t3,t4,t5,t6⟩,hs0,Vz⟩;dsimp only at t1 t2 t3 t4 t5 t6 hs0 Vz;refine⟨Qo,?_⟩;refine⟨λy=>(s0<=y.1/\y.1<=y.2/\y.2<=r0)/\(∀x,s0<=x->x<y.1->k (P9 d x)<=k (P9 d (QQ+m-1-x)))/\∀x,y.2<=x->x<r0->k (P9 d (QQ+m-1-x))<k (P9 d x),λy=>(y.2-y.1).toNat,⟨⟨le_refl _,t2,le_refl _⟩,λx p q=>by dsimp only at q;omega,λx p q=>by dsimp only at p;omega⟩,?_⟩;rintro⟨st,r⟩ ⟨⟨p1,p2,p3⟩,hA,hB⟩;dsimp only at p1 p2 p3 hA hB;refine Qb (λSv=>⟨Qo,?_⟩) (λSv=>?_)
   ·intro h hh;rw[BR om om om]at hh;subst hh;refine⟨Qo,om,om,C.det (wb ho om) (wb ho om) (aB (λQH=>⟨Qo,⟨⟨by (try dsimp only);omega,by (try dsimp only);omega,p3⟩,λx q1 q2=>?_,hB⟩,by (try dsimp only);omega⟩) (λQH=>⟨⟨⟨p1,by (try dsimp only);omega,by (try dsimp only);omega⟩,hA,λx q1 q2=>?_⟩,by (try dsimp only);omega⟩))⟩;·have u:=hU x ((st+r)/2) om (by dsimp only at q2;omega) om;have v:=hV (QQ+m-1-(st+r)/2) (QQ+m-1-x) om (by dsimp only at q2;omega) om;simp only[not_eq_true',decide_eq_false_iff_not]at QH;omega
    ·have u:=hU ((st+r)/2) x om q1 om;have v:=hV (QQ+m-1-x) (QQ+m-1-(st+r)/2) om (by dsimp only at q1;omega) om;simp only[Bool.not_eq_false',decide_eq_true_eq]at QH;omega
   ·obtain rfl:st=r:=om;refine⟨Qo,?_⟩
    have main:∀e:List Grow,SX a b d e->(∀x,0<=x->P9 e x=qO d st (m-st) (QQ+m-st-m) x)->
      bV (α:=(List Grow)) (λVL=>bV (α:=Bool) (λVK=>af (decide (a<st)) (VK (decide (st<QQ))) (VK false)) λx1=>af x1 (aL fu a st QQ e λSl=>Sl.length=e.length/\VL Sl) (VL e))
       λRQ=>bV (α:=Bool) (λT4=>af (decide (QQ<((QQ+m)-st))) (T4 (decide (((QQ+m)-st)<b))) (T4 false)) λx=>af x (aL fu QQ ((QQ+m)-st) b RQ λR_=>R_.length=RQ.length/\Q R_) (Q RQ):=λe hm hE=>by
     have TW:=hm.len;have g1:Sg k a st e:=λx y q1 q2 q3=>by rw[hE x om,hE y om];unfold qO;rw[if_neg om,if_neg om,if_neg om,if_neg om];exact hU x y q1 q2 om
     have g2:Sg k st QQ e:=λx y q1 q2 q3=>by rw[hE x om,hE y om];unfold qO;rw[if_pos om,if_pos om];exact hV _ _ om om om
     have g3:Sg k QQ (QQ+m-st) e:=λx y q1 q2 q3=>by rw[hE x om,hE y om];unfold qO;rw[if_neg om,if_pos om,if_neg om,if_pos om];exact hU _ _ om om om
     have g4:Sg k (QQ+m-st) b e:=λx y q1 q2 q3=>by rw[hE x om,hE y om];unfold qO;rw[if_neg om,if_neg om,if_neg om,if_neg om];exact hV _ _ om om om
     have g5:∀x y,a<=x->x<QQ->QQ<=y->y<b->k (P9 e x)<=k (P9 e y):=λx y q1 q2 q3 q4=>by
      rw[hE x om,hE y om];unfold qO;by_cases c1:x<st
      ·rw[if_neg (by omega:¬(st<=x/\_)),if_neg (by omega:¬(st+_<=x/\_)),if_neg (by omega:¬(st<=y/\_))];by_cases c2:y<QQ+m-st;·rw[if_pos om];exact hU _ _ om om om
       ·rw[if_neg om];have u:=hU x (st-1) om om om;have w:=hA (st-1) om om;have v:=hV (QQ+m-1-(st-1)) y om om q4;omega
      ·rw[if_pos (by omega:st<=x/\_),if_neg (by omega:¬(st<=y/\_))];by_cases c2:y<QQ+m-st;·rw[if_pos om];have u:=hU st (y-(QQ+m-st-m)) om om om;have w:=hB st om om;have v:=hV (x+(m-st)) (QQ+m-1-st) om om om;omega
       ·rw[if_neg om];exact hV _ _ om om om
     refine⟨λe4=>SX a QQ e e4/\Sg k a QQ e4,ol ?_,?_⟩
     ·have go:∀bb:Bool,(bb=true↔a<st/\st<QQ)->af bb (aL fu a st QQ e λSl=>Sl.length=e.length/\SX a QQ e Sl/\Sg k a QQ Sl) (SX a QQ e e/\Sg k a QQ e):=by
       intro bb UG;refine aB (λhc=>?_) (λhc=>?_)
       ·have:=UG.1 hc;exact E7 C c fu a st QQ e _ om om h0 this.1 this.2 om om (hm.ZR ho) g1 g2 λe4 W3 hs4=>⟨W3.len,W3,hs4⟩
       ·have Tj:¬(a<st/\st<QQ):=λh=>by rw[UG.2 h]at hc;cases hc
        refine⟨.refl,?_⟩;by_cases c1:st=a;·subst c1;exact g2
        ·grind
      exact Qb (λh=>go _ (by simp[h])) (λh=>go _ (by simp[h]))
     ·rintro e4 ⟨W3,hs4⟩;have hl4:=W3.len;have o4:∀x,QQ<=x->P9 e4 x=P9 e x:=λx hx=>W3.out x om (.inr hx);have g6:∀x y,a<=x->x<QQ->QQ<=y->y<b->k (P9 e4 x)<=k (P9 e4 y):=λx y q1 q2 q3 q4=>by rw[o4 y q3];exact W3.ins (λv=>k v<=k (P9 e y)) (λx q1 q2=>g5 x y q1 q2 q3 q4) x q1 q2
      have fin:∀e5:List Grow,SX QQ b e4 e5->Sg k QQ b e5->Q e5:=λe5 W2 hs5=>by
       have o5:∀x,a<=x->x<QQ->P9 e5 x=P9 e4 x:=λx q1 q2=>W2.out x om (.inl q2);refine hQ e5 ((hm.trans (W3.mono h0 (le_refl _) om)).trans (W2.mono h0 om (le_refl _))) λx y q1 q2 q3=>?_;by_cases c1:y<QQ;·rw[o5 x q1 om,o5 y om c1];exact hs4 x y q1 q2 c1
       by_cases c2:QQ<=x;·exact hs5 x y c2 q2 q3
       ·rw[o5 x q1 om];exact W2.ins (λv=>k (P9 e4 x)<=k v) (λy q3 q4=>g6 x y q1 om q3 q4) y om q3
      have g7:Sg k QQ (QQ+m-st) e4:=λx y q1 q2 q3=>by rw[o4 x q1,o4 y om];exact g3 x y q1 q2 q3
      have g8:Sg k (QQ+m-st) b e4:=λx y q1 q2 q3=>by rw[o4 x om,o4 y om];exact g4 x y q1 q2 q3
      have go:∀bb:Bool,(bb=true↔QQ<QQ+m-st/\QQ+m-st<b)->af bb (aL fu QQ ((QQ+m)-st) b e4 λR_=>R_.length=e4.length/\Q R_) (Q e4):=by
       intro bb UG;refine aB (λhc=>?_) (λhc=>?_)
       ·have:=UG.1 hc;exact E7 C c fu QQ (QQ+m-st) b e4 _ om om om this.1 this.2 om om (W3.ZR (hm.ZR ho)) g7 g8 λe5 W2 hs5=>⟨W2.len,fin e5 W2 hs5⟩
       ·have Tj:¬(QQ<QQ+m-st/\QQ+m-st<b):=λh=>by rw[UG.2 h]at hc;cases hc
        refine fin e4 .refl ?_;by_cases c1:QQ+m-st=b;·rw[<-c1];exact g7
        ·grind
      exact ol (Qb (λh=>go _ (by simp[h])) (λh=>go _ (by simp[h])))
    have go:∀bb:Bool,(bb=true↔st<m/\m<QQ+m-st)->af bb (b_ st m ((QQ+m)-st) d λS7=>S7.length=d.length/\SX a b d S7/\∀x,0<=x->P9 S7 x=qO d st (m-st) (QQ+m-st-m) x) (SX a b d d/\∀x,0<=x->P9 d x=qO d st (m-st) (QQ+m-st-m) x):=by
     intro bb UG;refine aB (λhc=>?_) (λhc=>?_)
     ·have:=UG.1 hc;refine H8 om this.1 this.2 om hl λe hp hE=>⟨hp.length_eq,⟨hp,λx q1 q2=>?_,λp T6 y q1 q2=>?_⟩,hE⟩;·grind [qO]
      ·rw[hE y om];unfold qO;by_cases c1:st<=y/\y<st+(QQ+m-st-m);·grind
       ·grind
     ·have Tj:¬(st<m/\m<QQ+m-st):=λh=>by rw[UG.2 h]at hc;cases hc
      refine⟨.refl,λx hx=>?_⟩;unfold qO;by_cases c1:st=m;·grind
      ·grind
    exact⟨λe=>SX a b d e/\∀x,0<=x->P9 e x=qO d st (m-st) (QQ+m-st-m) x,ol (Qb (λh=>go _ (by simp[h])) (λh=>go _ (by simp[h]))),λe he=>main e he.1 he.2⟩
def Ch(k:Grow->Int)(s n:Int)(d:List Grow):Prop:=∀c:Nat,∀x y,s*c<=x->x<=y->y<s*c+s->y<n->k (P9 d x)<=k (P9 d y)
theorem Jj{s:Int}(hs:0<=s)(h:c<t):s*c+s<=s*t:=by have:=Int.mul_le_mul_of_nonneg_left (show((c:Int)+1)<=t by omega) hs;rwa[Int.mul_add,Int.mul_one]at this
theorem Ji{s:Int}(hs:0<=s)(c:Nat):0<=s*c:=Int.mul_nonneg hs om
theorem HT(C:Keys ok k)(hl:d.length<=50000)(ho:∀x∈d,ok x){Q:List Grow->Prop}(hQ:∀e:List Grow,e.Perm d->Sg k 0 e.length e->Q e):cQ (d.length:Int) d Q:=by
 obtain⟨n,hn⟩:∃n:Int,n=(d.length:Int):=⟨_,rfl⟩;rw[<-hn];refine⟨λy=>∃t:Nat,y.1=20*(t:Int)/\y.2.1=y.1+20/\y.1<=n/\SX 0 n d y.2.2/\∀c:Nat,c<t->Sg k (20*(c:Int)) (20*(c:Int)+20) y.2.2,λy=>(n+20-y.2.1).toNat,⟨0,rfl,rfl,by (try dsimp only);omega,.refl,λc hc=>absurd hc om⟩,?_⟩;rintro⟨a,b,d1⟩ ⟨t,ha,hb,han,hm,hI⟩;dsimp only at ha hb han hm hI;have Tk:=hm.len;refine Qb (λhc=>?_) (λhc=>?_)
 ·refine IU C om om om om (hm.ZR ho) λe he hse=>⟨he.len,Qo,⟨t+1,by (try dsimp only);omega,rfl,hc,hm.trans (he.mono (le_refl _) om hc),λc hct=>?_⟩,by (try dsimp only);omega⟩;try dsimp only
  by_cases e1:c=t;·simp_all
  ·intro x y q1 q2 q3;rw[he.out x om om,he.out y om om];exact hI c om x y q1 q2 q3
 refine IU C om om om om (hm.ZR ho) λe3 he hse=>⟨he.len,?_⟩;have hm3:SX 0 n d e3:=hm.trans (he.mono (le_refl _) om (le_refl _));have hch:Ch k 20 n e3:=λc x y q1 q2 q3 q4=>by
  by_cases e1:c<t;·rw[he.out x om om,he.out y om om];exact hI c e1 x y q1 q2 q3
  ·by_cases e2:c=t;·subst e2;exact hse x y om q2 q4
   ·omega
 refine⟨λy=>(20<=y.1/\y.1<=200000)/\SX 0 n d y.2/\Ch k y.1 n y.2,λy=>(n-y.1).toNat,⟨⟨le_refl _,show(20:Int)<=200000 by decide⟩,hm3,hch⟩,?_⟩;rintro⟨s,d4⟩ ⟨⟨s1,s2⟩,W3,hC4⟩;dsimp only at s1 s2 W3 hC4;have hl4:=W3.len;refine Qb (λSw=>?_) (λSw=>?_)
 ·refine⟨Qo,?_⟩;refine⟨λy=>∃t:Nat,y.1=2*s*(t:Int)/\y.2.1=y.1+2*s/\y.1<=n/\SX 0 n d y.2.2/\(∀c:Nat,c<t->Sg k (2*s*(c:Int)) (2*s*(c:Int)+2*s) y.2.2)/\∀x,y.1<=x->P9 y.2.2 x=P9 d4 x,λy=>(n+2*s-y.2.1).toNat,⟨0,by (try dsimp only);simp,by (try dsimp only);omega,by (try dsimp only);omega,W3,λc hc=>absurd hc om,λ_ _=>rfl⟩,?_⟩;rintro⟨a1,b1,d5⟩ ⟨t,ha1,YI,ahI,W2,hA,hB⟩;dsimp only at ha1 YI ahI W2 hA hB;have hl5:=W2.len;have e0:0<=a1:=by rw[ha1];exact Ji om t
  have c0:s*((2*t:Nat):Int)=a1:=by grind
  have c1:s*((2*t+1:Nat):Int)=a1+s:=by grind
  have gU:∀m,m<=n->m<=a1+s->Sg k a1 m d5:=λm h1 h2 x y q1 q2 q3=>by rw[hB x q1,hB y om];exact hC4 (2*t) x y (by rw[c0];exact q1) q2 (by rw[c0];omega) om
  have gV:∀m,m<=n->m<=a1+2*s->Sg k (a1+s) m d5:=λm h1 h2 x y q1 q2 q3=>by rw[hB x om,hB y om];exact hC4 (2*t+1) x y (by rw[c1];exact q1) q2 (by rw[c1];omega) om
  have acU:∀e:List Grow,SX 0 n d e->(∀c:Nat,c<t->Sg k (2*s*(c:Int)) (2*s*(c:Int)+2*s) e)->Sg k a1 n e->n<a1+2*s->Qe (s*2)/\((20<=s*2/\s*2<=200000)/\SX 0 n d e/\Ch k (s*2) n e)/\(n-s*2).toNat<(n-s).toNat:=λe he h1 h2 h3=>by
   refine⟨Qo,⟨⟨om,om⟩,he,λc x y q1 q2 q3 q4=>?_⟩,om⟩;rw[Int.mul_comm s 2]at q1 q3;by_cases c1:c<t;·exact h1 c c1 x y q1 q2 q3
   ·by_cases c2:c=t;·subst c2;exact h2 x y om q2 q4
    ·have:=Jj (s:=2*s) om (show t<c by omega);omega
  have keep:∀e:List Grow,∀bb,SX a1 bb d5 e->∀c:Nat,c<t->Sg k (2*s*(c:Int)) (2*s*(c:Int)+2*s) e:=λe bb he c hct x y q1 q2 q3=>by have h1:=Jj (s:=2*s) om hct;have h2:=Ji (s:=2*s) om c;rw[he.out x om om,he.out y om om];exact hA c hct x y q1 q2 q3
  refine Qb (λYH=>⟨Qo,?_⟩) (λYH=>⟨Qo,Qb (λhc4=>?_) (λhc4=>?_)⟩)
  ·refine⟨(b1-a1).toNat+1,E7 C (b1-a1).toNat _ a1 (a1+s) b1 d5 _ om om e0 om om om om (W2.ZR ho) (gU _ om (le_refl _)) (gV _ YH om) λe he hse=>⟨he.len,Qo,Qo,⟨t+1,?_,rfl,YH,W2.trans (he.mono (le_refl _) e0 YH),λc hct=>?_,λx hx=>?_⟩,by (try dsimp only);omega⟩⟩;·grind
   ·grind
   ·dsimp only at hx ⊢;rw[he.out x om (.inr hx)];exact hB x om
  ·refine⟨(n-a1).toNat+1,E7 C (n-a1).toNat _ a1 (a1+s) n d5 _ om om e0 om hc4 om om (W2.ZR ho) (gU _ om (le_refl _)) (gV _ (le_refl _) om) λe he hse=>⟨he.len,acU e (W2.trans (he.mono (le_refl _) e0 (le_refl _))) (keep e n he) hse om⟩⟩
  ·grind
 ·have h5:=hQ d4 W3.perm;refine h5 λx y q1 q2 q3=>hC4 0 x y (by simpa using q1) q2 (by simp;omega) om
theorem Ce(C:Keys ok k)(hl:d.length<=50000)(ho:∀x∈d,ok x){Q:List Grow->Prop}(hQ:∀e:List Grow,e.Perm d->Sg k 0 e.length e->Q e):bK d Q:=HT C hl ho λe hp hs=>⟨hp.length_eq,hQ e hp hs⟩
end
end Go.Gg
