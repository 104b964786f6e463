/- What the functions on natural numbers compute, told of their formulas: part A. Conditions: none. -/
import Derived.Test.YtcmagbhiioheeaaGreatGc
import Derived.KernelRfl
import Derived.Test.YtcmagbhiioheeaaGreatWa
import Derived.Test.YtcmagbhiioheeaaGreatGd
open List (append_assoc eq_nil_of_length_eq_zero length_append length_singleton range replicate)
open Int (add_assoc add_comm add_mul ediv_nonneg emod_lt_of_pos emod_nonneg eq_ofNat_of_zero_le le_of_lt le_refl lt_or_le mul_add mul_assoc mul_comm mul_ediv_add_emod mul_le_mul mul_le_mul_of_nonneg_left mul_le_mul_of_nonneg_right mul_left_comm mul_nonneg mul_right_comm natCast_add natCast_mul pow_add pow_succ sub_mul sub_zero toNat toNat_natCast)
open Nat (gcd gcd_comm le_trans lt_or_ge mod_eq_of_lt mod_lt mul_ne_zero mul_one pow_le_pow_right pow_mul pow_pos sub_le)
open Go.IntKind (wrap)
open Bool (false_eq_true)
namespace Go.Gg
theorem tf (l:List Int) (i:Int):at' l i=l.getD i.toNat 0:=rfl
theorem gH (l:List Int) (i:Nat):at' l (i:Int)=l.getD i 0:=rfl
theorem f_ {α:Type} (l:List α) (i:Nat) (x:α):bu l (i:Int) x=l.set i x:=rfl
theorem ut {α:Type} (n:Nat) (x:α):bT (n:Int) x=replicate n x:=rfl
theorem Ei {α:Type} {f:(α->Prop)->Prop} {k:α->Prop} (h:f k):dt f k:=⟨k,h,λ_ h=>h⟩
theorem iP {α:Type} {e:α} {k:α->Prop} (h:k e):lq e k:=λ_ hv=>hv▸h
theorem condT {c:Prop} [Decidable c] {a b:Prop} (h1:c->a) (h2:¬c->b):an (decide c) a b:=⟨λh=>h1 (of_decide_eq_true h),λh=>h2 (of_decide_eq_false h)⟩
theorem bV {α:Type} [DecidableEq α] {x y:α} {a b:Prop} (h1:x=y->a) (h2:x≠y->b):an (x == y) a b:=⟨λh=>h1 (by simpa using h),λh=>h2 (by simpa using h)⟩
theorem fJ {α:Type} [DecidableEq α] {x y:α} {a b:Prop} (h1:x≠y->a) (h2:x=y->b):an (x != y) a b:=⟨λh=>h1 (by simpa using h),λh=>h2 (by simpa using h)⟩
theorem rF {b:Nat} {n:Nat} (hb:b<=200) (h:n<=1099511627776):kV b (n:Int) (n:Int):=⟨om,le_refl _,by
 have:(b:Int)*(n:Int)<=200*1099511627776:=mul_le_mul om om om om
 omega,om⟩
abbrev SM (l:List Int):Prop:=l.length<=1099511627776
theorem d_ {a:List Int} {i:Nat} {Q:Int->Prop} (hw:Words a) (h:Q (a.getD i 0)):c6 a (i:Int) Q:=by
 refine condT (λhc=>⟨⟨om,hc⟩,?_⟩) (λhc=>?_)
 ·rw[gH]
  have:=hw i
  rw[wrap_u64_id om om]
  exact h
 ·rw[pP om] at h
  exact h
theorem cu {a:List Int} {Q:List Int->Prop} (hw:Words a) (hl:SM a) (h:Q (lim (val a))):b_ a Q:=by
 refine⟨λn=>∃j:Nat,n=j/\j<=a.length/\(∀i,j<=i->i<a.length->a.getD i 0=0)/\(0<j->a.getD (j-1) 0≠0),?_,?_⟩
 ·refine⟨λn=>∃j:Nat,n=j/\j<=a.length/\(∀i,j<=i->i<a.length->a.getD i 0=0),λn=>n.toNat,⟨a.length,rfl,Nat.le_refl _,λi h1 h2=>om⟩,?_⟩
  rintro n ⟨j,rfl,hj,hz⟩
  refine condT (λhc=>⟨zRg,⟨om,om⟩,bV (λhe=>⟨zRg,⟨j-1,om,om,λi h1 h2=>?_⟩,by dsimp only;omega⟩) (λhe=>⟨j,rfl,hj,hz,λ_=>?_⟩)⟩) (λhc=>⟨j,rfl,hj,hz,λh0=>om⟩)
  ·by_cases hi:i=j-1
   ·subst hi
    rw[tf] at he
    have:((j:Int)-1).toNat=j-1:=om
    rwa[this] at he
   ·exact hz i om h2
  ·rw[tf] at he
   have:((j:Int)-1).toNat=j-1:=om
   rwa[this] at he
 ·rintro n ⟨j,rfl,hj,hz,hlast⟩
  have e:=rJ hw hj hz hlast
  refine bV (λhc=>?_) (λhc=>⟨⟨om,om,om⟩,?_,?_⟩)
  ·obtain rfl:j=0:=om
   rw[<-e] at h
   exact h
  ·simp[cg]
   have:min j a.length<=a.length:=om
   omega
  ·rw[<-e] at h
   simpa[cg] using h
theorem gD {a b:List Int} {Q:Int->Prop} (ha:Words a) (hb:Words b) (la:SM a) (lb:SM b) (h:Q (ou (val a) (val b))):dX a b Q:=by
 refine cu ha la (cu hb lb ?_)
 have b1:=dM ha
 have b2:=dM hb
 have w1:=aI (val a)
 have w2:=aI (val b)
 have v1:=cB w1
 have v2:=cB w2
 rw[ba] at v1 v2
 generalize hA:lim (val a)=A at *
 generalize hB:lim (val b)=B at *
 have hlt:A.length<B.length->val a<val b:=λh=>by
  rw[<-hA,<-hB] at h
  rcases lt_or_ge (val a) (val b) with h' | h'
  ·exact h'
  ·have:=cX h'
   omega
 have hgt:B.length<A.length->val b<val a:=λh=>by
  rw[<-hA,<-hB] at h
  rcases lt_or_ge (val b) (val a) with h' | h'
  ·exact h'
  ·have:=cX h'
   omega
 unfold SM at la lb
 refine fJ (λhc=>condT (λh1=>?_) (λh1=>?_)) (λhc=>⟨zRg,?_⟩)
 ·rw[ou,if_pos (hlt om)] at h;exact h
 ·have:=hgt om
  rw[ou,if_neg om,if_neg om] at h;exact h
 ·have hlen:A.length=B.length:=om
  refine⟨λi=>∃j:Nat,i=(j:Int)-1/\j<=A.length/\(∀k,j<=k->k<A.length->A.getD k 0=B.getD k 0),λi=>(i+1).toNat,⟨A.length,rfl,Nat.le_refl _,λk h1 h2=>om⟩,?_⟩
  rintro i ⟨j,rfl,hj,he⟩
  have hj1:((j:Int)-1).toNat=j-1:=om
  refine condT (λhc=>⟨⟨om,om⟩,⟨om,om⟩,?_⟩) (λhc=>?_)
  ·rw[tf,tf,hj1]
   refine condT (λh1=>?_) (λh1=>⟨⟨om,om⟩,⟨om,om⟩,condT (λh2=>?_) (λh2=>⟨zRg,⟨j-1,om,om,λk h3 h4=>?_⟩,by dsimp only;omega⟩)⟩)
   ·have:=BB w1 w2 (i:=j-1) (n:=A.length) om h1 (λk h1 h2=>he k om h2)
    rw[<-hlen] at v2
    rw[ou,if_pos om] at h;exact h
   ·have:=BB w2 w1 (i:=j-1) (n:=A.length) om h2 (λk h1 h2=>(he k om h2).symm)
    rw[<-hlen] at v2
    rw[ou,if_neg om,if_neg om] at h;exact h
   ·by_cases hk:k=j-1
    ·subst hk;omega
    ·exact he k om h4
  ·have:=kF (l:=A) (m:=B) A.length (λk hk=>he k om hk)
   rw[<-hlen] at v2
   rw[ou,if_neg om,if_pos om] at h;exact h
theorem w7 {a b:List Int} {Q:List Int->Prop} (ha:Words a) (hb:Words b) (la:SM a) (lb:a.length<=1099511627775/\b.length<=1099511627775) (h:Q (lim (val a+val b))):kp a b Q:=by
 unfold SM at la
 obtain⟨n,hn0⟩:∃n,n=max a.length b.length+1:=⟨_,rfl⟩
 have hn:max (a.length:Int) (b.length:Int)+1=(n:Int):=om
 unfold kp
 rw[hn]
 refine⟨zRg,rF om om,?_⟩
 rw[toNat_natCast]
 refine⟨λy=>∃i:Nat,y.2.1=i/\i<=n/\y.2.2.length=n/\Words y.2.2/\0<=y.1/\y.1<=1/\pv y.2.2 i+y.1*4294967296^i=pv a i+pv b i,λy=>n-y.2.1.toNat,⟨0,rfl,om,by simp[bT],Words.rep n,om,om,by simp[pv]⟩,?_⟩
 rintro⟨c,x,out⟩ ⟨i,hx,hi,hlen,hw,hc0,hc1,hpv⟩
 simp only at hx hi hlen hw hc0 hc1 hpv
 subst hx
 have hxl:=ha i
 have hxm:=hb i
 refine condT (λhlt=>?_) (λhge=>?_)
 ·refine d_ ha (d_ hb (iP ⟨⟨om,om⟩,zRg,?_,?_⟩))
  ·simp (disch:=omega) only[f_,wrap_u64_id,wrap_u32]
   refine⟨i+1,om,om,by simp[hlen],hw.set _ om om,by show 0<=_ / 4294967296;omega,by show _ / 4294967296<=1;omega,?_⟩
   show pv (out.set i _) (i+1)+_ / 4294967296*_=_
   rw[vt om,pow_succ,pv,pv,add_assoc,mC]
   have:=add_mul c (a.getD i 0+b.getD i 0) (4294967296^i)
   have:=add_mul (a.getD i 0) (b.getD i 0) (4294967296^i)
   omega
  ·show n-((i:Int)+1).toNat<n-(i:Int).toNat
   omega
 ·obtain rfl:i=n:=om
  refine cu hw (by unfold SM;omega) ?_
  have e:val out=val a+val b:=by
   have a1:=eK hw (i:=i) om
   have a2:=eK ha (i:=i) om
   have a3:=eK hb (i:=i) om
   have b2:=oD (l:=a) (i-1) om
   have b3:=oD (l:=b) (i-1) om
   have b4:=oD (l:=a) i om
   have b5:=oD (l:=b) i om
   have c2:=(bz ha (i-1)).2
   have c3:=(bz hb (i-1)).2
   have hi1:i=i-1+1:=om
   have hc:=hpv
   rw[hi1,pow_succ,<-hi1] at hc
   have:=wl hc om om om hc0 hc1 (fw _)
   subst this
   omega
  rw[e]
  exact h
theorem qk {a b:List Int} {Q:List Int->Option Int->Prop} (ha:Words a) (hb:Words b) (la:SM a) (lb:SM b) (h1:val a<val b->Q [] (some 3)) (h2:val b<=val a->Q (lim (val a-val b)) none):kn a b Q:=by
 refine gD ha hb la lb (condT (λhc=>h1 (lH.1 hc)) (λhc=>⟨rF om la,?_⟩))
 have hge:val b<=val a:=by have:=mt lH.2 hc;omega
 have h:=h2 hge
 clear h1 h2
 unfold SM at la lb
 rw[toNat_natCast]
 refine⟨λy=>∃i:Nat,y.2.1=i/\i<=a.length/\y.2.2.length=a.length/\Words y.2.2/\0<=y.1/\y.1<=1/\pv y.2.2 i=pv a i-pv b i+y.1*4294967296^i,λy=>a.length-y.2.1.toNat,⟨0,rfl,om,by simp[bT],Words.rep _,om,om,by simp[pv]⟩,?_⟩
 rintro⟨c,x,out⟩ ⟨i,hx,hi,hlen,hw,hb0,hb1,hpv⟩
 simp only at hx hi hlen hw hb0 hb1 hpv
 subst hx
 have hxl:=ha i
 have hxm:=hb i
 obtain⟨q1,q2,q3⟩:=uK (a.getD i 0) (b.getD i 0) c hxl hxm ⟨hb0,hb1⟩
 refine condT (λhlt=>d_ ha (d_ hb (iP ⟨⟨om,om⟩,zRg,?_,by dsimp only;omega⟩))) (λhge=>?_)
 ·simp only[f_,wrap_u32]
  generalize IntKind.u64.wrap (IntKind.u64.wrap (a.getD i 0-b.getD i 0)-c)=d at *
  have e63:d / 2^toNat 63=d / 9223372036854775808:=rfl
  refine⟨i+1,om,om,by simp[hlen],hw.set _ om om,by simpa only[e63] using q2,by simpa only[e63] using q3,?_⟩
  simp only[e63]
  rw[vt om,pow_succ,pv,pv,hpv]
  have e:d % 4294967296=a.getD i 0-b.getD i 0-c+4294967296*(d / 9223372036854775808):=om
  rw[e]
  generalize d / 9223372036854775808=d'
  have a1:=add_mul (a.getD i 0-b.getD i 0-c) (4294967296*d') (4294967296^i)
  have a2:=sub_mul (a.getD i 0-b.getD i 0) c (4294967296^i)
  have a3:=sub_mul (a.getD i 0) (b.getD i 0) (4294967296^i)
  have a4:4294967296*d'*4294967296^i=d'*(4294967296^i*4294967296):=by rw[mul_comm 4294967296 d',mul_assoc,mul_comm 4294967296]
  omega
 ·obtain rfl:i=a.length:=om
  refine cu hw (by unfold SM;omega) ?_
  have e:val out=val a-val b:=by
   have a1:=eK hw (i:=a.length) om
   have a2:=cB ha
   have a3:=bz ha a.length
   have a4:=bz hw a.length
   have a5:=bz hb a.length
   have a6:=cB hb
   rcases lt_or_ge a.length b.length with h | h
   ·have hm1:=pK hb (Nat.le_of_lt h)
    rcases (by omega:c=0\/c=1) with rfl | rfl
    ·
     have hz:pv b b.length=pv b a.length:=by
      refine rm hb (Nat.le_of_lt h) ?_
      omega
     omega
    ·omega
   ·have hm1:=eK hb h
    rcases (by omega:c=0\/c=1) with rfl | rfl<;>omega
  rw[e]
  exact h
theorem fH {a b:List Int} {Q:List Int->Prop} (ha:Words a) (hb:Words b) (la:a.length+b.length<=1099511627776) (h:Q (lim (val a*val b))):di a b Q:=by
 obtain⟨N,hN⟩:∃N,N=a.length+b.length:=⟨_,rfl⟩
 have hNi:(a.length:Int)+(b.length:Int)=(N:Int):=om
 unfold di
 rw[hNi]
 refine⟨zRg,rF om om,?_⟩
 refine⟨λy=>∃i:Nat,y.1=i/\i<=a.length/\y.2.length=N/\Words y.2/\(∀p,i+b.length<=p->y.2.getD p 0=0)/\pv y.2 N=pv a i*pv b b.length,λy=>a.length-y.1.toNat,
  ⟨0,rfl,om,by simp[bT],Words.rep _,λp hp=>by rw[ut,List.getD_eq_getElem?_getD,List.getElem?_replicate];split<;>rfl,by rw[ut,qB];simp[pv]⟩,?_⟩
 rintro⟨x,out⟩ ⟨i,hx,hi,hlen,hw,hz,hpv⟩
 simp only at hx hi hlen hw hz hpv
 subst hx
 have hxi:=ha i
 refine condT (λhlt=>⟨⟨om,hlt⟩,?_⟩) (λhge=>?_)
 ·refine⟨λy=>∃k:Nat,y.2.1=k/\k<=b.length/\y.2.2.length=N/\Words y.2.2/\(∀p,i+b.length<=p->y.2.2.getD p 0=0)/\0<=y.1/\y.1<4294967296/\
    pv y.2.2 N+y.1*4294967296^(i+k)=pv a i*pv b b.length+a.getD i 0*4294967296^i*pv b k,λy=>b.length-y.2.1.toNat,
   ⟨0,rfl,om,hlen,hw,hz,om,om,by simp[pv,hpv]⟩,?_⟩
  clear hpv hz hw hlen h
  rintro⟨c,x1,out2⟩ ⟨k,hx,hk,hlen,hw,hz,hc0,hc1,hpv⟩
  simp only at hx hk hlen hw hz hc0 hc1 hpv
  subst hx
  have hy:=hb k
  have ho:=hw (i+k)
  obtain⟨q1,q2⟩:=zO hxi hy
  have eik:(i:Int)+(k:Int)=((i+k:Nat):Int):=om
  have eib:(i:Int)+(b.length:Int)=((i+b.length:Nat):Int):=om
  refine condT (λhlt2=>⟨⟨om,hlt2⟩,zRg,⟨om,om⟩,iP ⟨zRg,⟨om,om⟩,zRg,?_,by dsimp only;omega⟩⟩) (λhge2=>⟨zRg,⟨om,om⟩,zRg,?_,by dsimp only;omega⟩)
  ·simp only[eik,gH,f_]
   simp (disch:=omega) only[wrap_u64_id,wrap_u32]
   have e32:∀z:Int,z / 2^toNat 32=z / 4294967296:=λ_=>rfl
   simp only[e32]
   generalize hv:c+(a.getD i 0*b.getD k 0+out2.getD (i+k) 0)=v
   refine⟨k+1,om,om,by simp[hlen],hw.set _ om om,λp hp=>?_,by show 0<=v / 4294967296;omega,by show v / 4294967296<4294967296;omega,?_⟩
   ·show(out2.set (i+k) _).getD p 0=0
    rw[cG om];exact hz p hp
   ·show pv (out2.set (i+k) (v % 4294967296)) N+v / 4294967296*4294967296^(i+(k+1))=_
    rw[gX om N om,pv,<-Nat.add_assoc,pow_succ,mul_add,<-add_assoc,<-hpv]
    have s1:=mC v (4294967296^(i+k))
    have s2:=sub_mul (v % 4294967296) (out2.getD (i+k) 0) (4294967296^(i+k))
    have s3:v*4294967296^(i+k)=c*4294967296^(i+k)+(a.getD i 0*4294967296^i*(b.getD k 0*4294967296^k)+out2.getD (i+k) 0*4294967296^(i+k)):=by
     rw[<-hv,add_mul,add_mul,pow_add]
     congr 2
     rw[mul_assoc,mul_assoc,mul_left_comm (b.getD k 0)]
    omega
  ·obtain rfl:k=b.length:=om
   simp only[eib,f_,wrap_u32]
   have hcm:c % 4294967296=c:=om
   rw[hcm]
   refine⟨i+1,om,om,by simp[hlen],hw.set _ om om,λp hp=>?_,?_⟩
   ·show(out2.set (i+b.length) c).getD p 0=0
    rw[cG om];exact hz p om
   ·show pv (out2.set (i+b.length) c) N=pv a (i+1)*_
    rw[gX om N om,hz (i+b.length) om,pv,add_mul,sub_zero]
    exact hpv
 ·obtain rfl:i=a.length:=om
  refine cu hw (by unfold SM;omega) ?_
  have e:val out=val a*val b:=by
   have a1:=eK hw (i:=N) om
   have a2:=cB ha
   have a3:=cB hb
   have:((val a*val b:Nat):Int)=(val a:Int)*(val b:Int):=by simp
   have:(val out:Int)=((val a*val b:Nat):Int):=by rw[this,a1,hpv,a2,a3]
   omega
  rw[e]
  exact h
theorem D0 {x y i:Nat} (hx:x<2^i) (hy:2^i ∣ y):y ||| x=y+x:=by
 obtain⟨z,rfl⟩:=hy
 rw[Nat.mul_comm,<-Nat.shiftLeft_eq,Nat.shiftLeft_add_eq_or_of_lt hx]
theorem vE {x y:Int} (i:Nat) (hx:0<=x) (hxi:x<2^i) (hy:0<=y) (hyi:y % 2^i=0) (hs:y+x<18446744073709551616):bits .or .u64 y x=y+x:=by
 obtain⟨m,rfl⟩:=eq_ofNat_of_zero_le hx
 obtain⟨n,rfl⟩:=eq_ofNat_of_zero_le hy
 have h1:m<2^i:=by exact_mod_cast hxi
 have h2:2^i ∣ n:=by
  have:(n:Int) % ((2^i:Nat):Int)=0:=by simpa using hyi
  exact Nat.dvd_of_mod_eq_zero om
 have h3:=D0 h1 h2
 show IntKind.u64.wrap (((BitVec.ofInt 64 (n:Int)) ||| (BitVec.ofInt 64 (m:Int))).toNat:Int)=_
 rw[oT,BitVec.toNat_or,BitVec.toNat_ofInt,BitVec.toNat_ofInt]
 have e1:((n:Int) % ((2^64:Nat):Int)).toNat=n:=om
 have e2:((m:Int) % ((2^64:Nat):Int)).toNat=m:=om
 rw[e1,e2,h3]
 omega
theorem yh {x y:Int} (i:Nat) (hx:0<=x) (hxi:x<2^i) (hy:0<=y) (hyi:y % 2^i=0) (hs:y+x<18446744073709551616):bits .or .u64 x y=y+x:=by
 rw[<-vE i hx hxi hy hyi hs]
 show IntKind.u64.wrap (((BitVec.ofInt 64 x) ||| (BitVec.ofInt 64 y)).toNat:Int)=IntKind.u64.wrap (((BitVec.ofInt 64 y) ||| (BitVec.ofInt 64 x)).toNat:Int)
 rw[BitVec.or_comm]
theorem Fx {x y:Int} (i:Nat) (hx:0<=x) (hxi:x<2^i) (hy:0<=y) (hyi:y % 2^i=0) (hs:y+x<4294967296):bits .or .u32 x y=y+x:=by
 obtain⟨m,rfl⟩:=eq_ofNat_of_zero_le hx
 obtain⟨n,rfl⟩:=eq_ofNat_of_zero_le hy
 have h1:m<2^i:=by exact_mod_cast hxi
 have h2:2^i ∣ n:=by
  have:(n:Int) % ((2^i:Nat):Int)=0:=by simpa using hyi
  exact Nat.dvd_of_mod_eq_zero om
 have h3:=D0 h1 h2
 show IntKind.u32.wrap (((BitVec.ofInt 32 (m:Int)) ||| (BitVec.ofInt 32 (n:Int))).toNat:Int)=_
 rw[wrap_u32,BitVec.toNat_or,BitVec.toNat_ofInt,BitVec.toNat_ofInt]
 have e1:((n:Int) % ((2^32:Nat):Int)).toNat=n:=om
 have e2:((m:Int) % ((2^32:Nat):Int)).toNat=m:=om
 rw[e1,e2,Nat.or_comm,h3]
 omega
def cc (n:Nat):Nat:=if n=0 then 0 else n.log2+1
theorem xJ:cc 0=0:=rfl
theorem pU {n:Nat}:n<2^cc n:=by
 unfold cc
 split
 ·omega
 ·exact Nat.lt_log2_self
theorem ox {n:Nat} (h:n≠0):2^(cc n-1)<=n:=by
 unfold cc
 rw[if_neg h]
 exact Nat.log2_self_le h
theorem ta {n k:Nat} (h:n<2^k) (h':k≠0->2^(k-1)<=n):cc n=k:=by
 by_cases h0:n=0
 ·subst h0
  cases k with
  | zero=>rfl
  | succ k=>have:=h' om;have:0<2^k:=pow_pos om;simp at *
 ·have a:=pU (n:=n)
  have b:=ox h0
  have hk:k≠0:=by rintro rfl;simp at h;omega
  have c:=h' hk
  have hb:cc n≠0:=by unfold cc;rw[if_neg h0];omega
  rcases Nat.lt_trichotomy (cc n) k with hlt | he | hgt
  ·have:2^cc n<=2^(k-1):=pow_le_pow_right om om
   omega
  ·exact he
  ·have:2^k<=2^(cc n-1):=pow_le_pow_right om om
   omega
theorem wq {n k:Nat} (h:2^k<=n):cc n=cc (n / 2^k)+k:=by
 have hp:0<2^k:=pow_pos om
 have hq:n / 2^k≠0:=by have:=Nat.div_pos h hp;omega
 have a:=pU (n:=n / 2^k)
 have b:=ox hq
 have hb:cc (n / 2^k)≠0:=by unfold cc;rw[if_neg hq];omega
 refine ta ?_ (λ_=>?_)
 ·rw[Nat.pow_add]
  rw[Nat.div_lt_iff_lt_mul hp] at a
  exact a
 ·have e:cc (n / 2^k)+k-1=(cc (n / 2^k)-1)+k:=om
  rw[e,Nat.pow_add]
  rw[Nat.le_div_iff_mul_le hp] at b
  exact b
theorem Fa:(range 256).all (λk=>qO ij k == (cc k:Int))=true:=by kernel_rfl
theorem G7 {k:Nat} (h:k<256):qO ij k=(cc k:Int):=by
 have:=List.all_eq_true.1 Fa k (by simpa using h)
 simpa using this
theorem Dw:ij.size=256:=by kernel_rfl
theorem BR {x:Nat} {Q:Int->Prop} (hx:x<4294967296) (h:Q (cc x)):gJ (x:Int) Q:=by
 refine⟨λy=>∃z k:Nat,y=((z:Int),(k:Int))/\z<65536/\k<=16/\cc x=cc z+k,?_,?_⟩
 ·refine condT (λhc=>⟨x / 65536,16,?_,om,om,?_⟩) (λhc=>⟨x,0,rfl,om,om,rfl⟩)
  ·show((x:Int) / 65536,(16:Int))=_
   rw[Prod.mk.injEq];exact⟨om,rfl⟩
  ·exact wq (k:=16) om
 ·rintro _ ⟨z,k,rfl,hz,hk,hb⟩
  refine⟨λy=>∃z k:Nat,y=((z:Int),(k:Int))/\z<256/\k<=24/\cc x=cc z+k,?_,?_⟩
  ·refine condT (λhc=>⟨zRg,z / 256,k+8,?_,om,om,?_⟩) (λhc=>⟨z,k,rfl,om,om,hb⟩)
   ·show((z:Int) / 256,(k:Int)+8)=_
    rw[Prod.mk.injEq];exact⟨om,om⟩
   ·have h8:=wq (n:=z) (k:=8) om
    have e:z / 2^8=z / 256:=rfl
    rw[e] at h8
    omega
  ·rintro _ ⟨z,k,rfl,hz,hk,hb⟩
   show(_/\_)
   have hw:IntKind.u8.wrap (z:Int)=z:=by rw[wrap_u8];omega
   have hz':(cc z:Int)<=8:=by
    have:cc z<=8:=by
     by_cases h0:z=0
     ·subst h0;simp[cc]
     ·have:=ox h0
      rcases lt_or_ge 8 (cc z) with h8 | h8
      ·have:2^8<=2^(cc z-1):=pow_le_pow_right om om
       omega
      ·exact h8
    omega
   rw[hw,Dw]
   have e:(toNat (z:Int))=z:=om
   rw[e,G7 hz,jt zRg]
   refine⟨⟨om,om⟩,zRg,iP ?_⟩
   have:(k:Int)+(cc z:Int)=((cc x:Nat):Int):=om
   rw[this]
   exact h
theorem pV {x:Nat} (hx:x<4294967296):cc x<=32:=by
 by_cases h0:x=0
 ·subst h0;simp[cc]
 ·have:=ox h0
  rcases lt_or_ge 32 (cc x) with h8 | h8
  ·have:2^32<=2^(cc x-1):=pow_le_pow_right om om
   omega
  ·exact h8
theorem HA {x:Nat} {Q:Int->Prop} (hx:x<4294967296) (h:Q ((32-cc x:Nat):Int)):e_ (x:Int) Q:=by
 refine BR hx ?_
 have h1:=pV hx
 refine⟨zRg,?_⟩
 have:(32:Int)-(cc x:Int)=((32-cc x:Nat):Int):=om
 rw[this]
 exact h
theorem pF {n:Nat} (h:n<=32):(2:Int)^n*2^(32-n)=4294967296:=by
 rw[<-pow_add]
 have:n+(32-n)=32:=om
 rw[this];rfl
theorem fO (n:Nat):(0:Int)<2^n:=Int.pow_pos om
theorem ph {a:List Int} {n:Nat} {Q:List Int->Prop} (ha:Words a) (la:a.length<=1099511627775) (hn:n<=32) (h:∀out,Words out->out.length=a.length+1->val out=val a*2^n->Q out):e8 a (n:Int) Q:=by
 have hL:(a.length:Int)+1=((a.length+1:Nat):Int):=om
 unfold e8
 rw[hL]
 have hs:=pF hn
 have hpp:=fO n
 have hqp:=fO (32-n)
 generalize hp:(2:Int)^n=p at *
 generalize (2:Int)^(32-n)=q at *
 have hple:p<=4294967296:=by
  have:p*1<=p*q:=mul_le_mul_of_nonneg_left om om
  omega
 have hdvd:p ∣ 4294967296:=⟨q,hs.symm⟩
 refine⟨zRg,rF om om,λy=>∃i:Nat,y.1=i/\i<=a.length/\y.2.length=a.length+1/\Words y.2/\(∀k,i<k->y.2.getD k 0=0)/\y.2.getD i 0<p/\pv y.2 (i+1)=pv a i*p,λy=>a.length-y.1.toNat,
  ⟨0,rfl,om,by simp[bT],Words.rep _,λk hk=>?_,?_,?_⟩,?_⟩
 ·show(replicate (a.length+1) (0:Int)).getD k 0=0
  rw[List.getD_eq_getElem?_getD,List.getElem?_replicate];split<;>rfl
 ·show(replicate (a.length+1) (0:Int)).getD 0 0<p
  simp;omega
 ·show pv (replicate (a.length+1) (0:Int)) 1=_
  rw[qB];simp[pv]
 rintro⟨x,out⟩ ⟨i,hx,hi,hlen,hw,hz,hlow,hpv⟩
 simp only at hx hi hlen hw hz hlow hpv
 subst hx
 have hxi:=ha i
 have hoi:=hw i
 refine condT (λhlt=>⟨⟨om,hlt⟩,⟨om,om⟩,?_⟩) (λhge=>?_)
 ·rw[gH,toNat_natCast,hp]
  have hy0:0<=a.getD i 0*p:=mul_nonneg hxi.1 om
  have hy1:a.getD i 0*p<4294967296*p:=Int.mul_lt_mul_of_pos_right hxi.2 hpp
  have hy2:4294967296*p<=4294967296*4294967296:=mul_le_mul_of_nonneg_left hple om
  rw[wrap_u64_id hxi.1 om,wrap_u64_id hy0 om]
  refine iP ?_
  have hdy:p ∣ a.getD i 0*p:=⟨_,mul_comm _ _⟩
  have hhi:a.getD i 0*p / 4294967296<p:=by
   rw[Int.ediv_lt_iff_lt_mul om]
   rw[mul_comm p];exact hy1
  generalize hv:a.getD i 0*p=y at *
  refine⟨⟨om,om⟩,⟨om,om⟩,zRg,⟨om,om⟩,zRg,?_,by dsimp only;omega⟩
  have e1:(i:Int)+1=((i+1:Nat):Int):=om
  have e32:y / 2^toNat 32=y / 4294967296:=rfl
  have hm:(y % 4294967296) % p=0:=by rw[Int.emod_emod_of_dvd _ hdvd];exact Int.emod_eq_zero_of_dvd hdy
  have hh0:0<=y / 4294967296:=om
  have hor:bits .or .u32 (out.getD i 0) (y % 4294967296)=y % 4294967296+out.getD i 0:=by
   refine Fx n hoi.1 (by rw[hp];exact hlow) om (by rw[hp];exact hm) ?_
   obtain⟨z,hz'⟩:=Int.dvd_of_emod_eq_zero hm
   have:z<q:=by
    rcases lt_or_le z q with h1 | h1
    ·exact h1
    ·have:p*q<=p*z:=mul_le_mul_of_nonneg_left h1 om
     omega
   have:p*z<=p*(q-1):=mul_le_mul_of_nonneg_left om om
   rw[Int.mul_sub,hs] at this
   omega
  rw[e1,gH,f_,f_,e32,wrap_u32,wrap_u32,hor]
  have hlo:y % 4294967296+out.getD i 0<4294967296:=by
   obtain⟨z,hz'⟩:=Int.dvd_of_emod_eq_zero hm
   have:z<q:=by
    rcases lt_or_le z q with h1 | h1
    ·exact h1
    ·have:p*q<=p*z:=mul_le_mul_of_nonneg_left h1 om
     omega
   have:p*z<=p*(q-1):=mul_le_mul_of_nonneg_left om om
   rw[Int.mul_sub,hs] at this
   omega
  have hmod:y / 4294967296 % 4294967296=y / 4294967296:=om
  rw[hmod]
  refine⟨i+1,rfl,om,by simp[hlen],(hw.set _ om om).set _ hh0 om,λk hk=>?_,?_,?_⟩
  ·show((out.set i _).set (i+1) _).getD k 0=0
   rw[cG om,cG om]
   exact hz k om
  ·show((out.set i _).set (i+1) _).getD (i+1) 0<p
   rw[kw (by simp;omega)]
   exact hhi
  ·show pv ((out.set i _).set (i+1) _) (i+1+1)=_
   rw[vt (by simp;omega),vt om,pv,pow_succ]
   rw[pv] at hpv
   have s4:=add_mul (pv a i) (a.getD i 0*4294967296^i) p
   have s1:=mC y (4294967296^i)
   have s2:=add_mul (y % 4294967296) (out.getD i 0) (4294967296^i)
   have s3:a.getD i 0*4294967296^i*p=y*4294967296^i:=by rw[<-hv,mul_assoc,mul_comm _ p,<-mul_assoc]
   omega
 ·obtain rfl:i=a.length:=om
  refine h out hw hlen ?_
  have a1:=cB hw
  have a2:=cB ha
  rw[hlen,hpv,<-a2] at a1
  have:((val a*2^n:Nat):Int)=(val a:Int)*p:=by rw[<-hp];simp
  have:(val out:Int)=((val a*2^n:Nat):Int):=by rw[this];exact a1
  omega
theorem ub {a:List Int} {n:Nat} {Q:List Int->Prop} (ha:Words a) (la:SM a) (hn:n<=32) (h:∀out,Words out->out.length=a.length->val out=val a / 2^n->Q out):iW a (n:Int) Q:=by
 unfold SM at la
 unfold iW
 have hs:=pF hn
 have hpp:=fO n
 have hqp:=fO (32-n)
 generalize hp:(2:Int)^n=p at *
 generalize (2:Int)^(32-n)=q at *
 have hdvd:p ∣ 4294967296:=⟨q,hs.symm⟩
 refine⟨rF om la,λy=>∃i:Nat,y.1=i/\i<=a.length/\y.2.length=a.length/\Words y.2/\pv y.2 i*p=pv a i-a.getD 0 0 % p+(a.getD i 0 % p)*4294967296^i,λy=>a.length-y.1.toNat,
  ⟨0,rfl,om,by simp[bT],Words.rep _,by simp[pv];omega⟩,?_⟩
 rintro⟨x,out⟩ ⟨i,hx,hi,hlen,hw,hpv⟩
 simp only at hx hi hlen hw hpv
 subst hx
 have h0:=ha i
 have h1:=ha (i+1)
 have e1:(i:Int)+1=((i+1:Nat):Int):=om
 refine condT (λhlt=>d_ ha ⟨zRg,?_⟩) (λhge=>?_)
 ·rw[e1]
  refine d_ ha ⟨⟨om,om⟩,⟨om,om⟩,zRg,?_,by dsimp only;omega⟩
  have e32:(2:Int)^toNat 32=4294967296:=rfl
  rw[e32,toNat_natCast,hp,wrap_u64_id om om,yh 32 h0.1 h0.2 om (by show _ % 4294967296=0;omega) om,f_,wrap_u32]
  generalize ha0:a.getD i 0=x0 at *
  generalize ha1:a.getD (i+1) 0=x1 at *
  have hx0:0<=x0 / p:=ediv_nonneg h0.1 om
  have hx0':x0 / p<q:=by rw[Int.ediv_lt_iff_lt_mul hpp,mul_comm,hs];exact h0.2
  have hm0:0<=x1 % p:=emod_nonneg _ om
  have hm1:x1 % p<p:=emod_lt_of_pos _ hpp
  have hdv:(x1*4294967296+x0) / p=x1*q+x0 / p:=by
   rw[<-hs,mul_left_comm,add_comm,Int.add_mul_ediv_left _ _ om,add_comm]
  have hk:(x1*4294967296+x0) / p % 4294967296=(x1 % p)*q+x0 / p:=by
   have d1:x1=p*(x1 / p)+x1 % p:=(mul_ediv_add_emod x1 p).symm
   have d2:x1*q+x0 / p=(x1 % p)*q+x0 / p+4294967296*(x1 / p):=by
    have:x1*q=(p*(x1 / p)+x1 % p)*q:=by rw[<-d1]
    rw[this,add_mul,mul_right_comm,hs];omega
   rw[hdv,d2,Int.add_mul_emod_self_left]
   refine Int.emod_eq_of_lt ?_ ?_
   ·have:=mul_nonneg hm0 (le_of_lt hqp);omega
   ·have:(x1 % p)*q<=(p-1)*q:=mul_le_mul_of_nonneg_right om om
    rw[sub_mul,hs] at this;omega
  rw[hk]
  have hq0:=mul_nonneg hm0 (le_of_lt hqp)
  have hq1:(x1 % p)*q<=(p-1)*q:=mul_le_mul_of_nonneg_right om om
  rw[sub_mul,hs] at hq1
  refine⟨i+1,rfl,om,by simp[hlen],hw.set _ om om,?_⟩
  show pv (out.set i (x1 % p*q+x0 / p)) (i+1)*p=pv a (i+1)-_+_
  rw[vt om,pv,add_mul,hpv,ha0,ha1,pow_succ]
  have d0:x0=p*(x0 / p)+x0 % p:=(mul_ediv_add_emod x0 p).symm
  have s1:(x1 % p*q+x0 / p)*4294967296^i*p=x1 % p*(4294967296^i*4294967296)+(p*(x0 / p))*4294967296^i:=by
   rw[add_mul,add_mul]
   congr 1
   ·rw[<-hs,mul_assoc,mul_assoc,mul_left_comm q,mul_comm q p]
   ·rw[mul_right_comm,mul_comm (x0 / p)]
  have s2:x0*4294967296^i=(p*(x0 / p))*4294967296^i+x0 % p*4294967296^i:=by
   rw[<-add_mul,<-d0]
  omega
 ·obtain rfl:i=a.length:=om
  refine h out hw hlen ?_
  have a1:=cB hw
  have a2:=cB ha
  rw[hlen] at a1
  rw[pP (Nat.le_refl a.length),Int.zero_emod,Int.zero_mul,<-a2,<-a1] at hpv
  have hr0:0<=a.getD 0 0 % p:=emod_nonneg _ om
  have hr1:a.getD 0 0 % p<p:=emod_lt_of_pos _ hpp
  have e:(val a:Int) / p=val out:=by
   have:(val a:Int)=p*val out+a.getD 0 0 % p:=by rw[mul_comm];omega
   rw[this,add_comm,Int.add_mul_ediv_left _ _ om,Int.ediv_eq_zero_of_lt hr0 hr1];omega
  have e2:((val a / 2^n:Nat):Int)=(val a:Int) / p:=by rw[<-hp];simp
  omega
theorem ua {a:List Int} {b:Int} {Q:List Int->Int->Prop} (ha:Words a) (la:SM a) (hb0:0<b) (hb1:b<4294967296) (h:Q (lim (val a / b.toNat)) ((val a % b.toNat:Nat):Int)):iV a b Q:=by
 unfold SM at la
 unfold iV
 rw[wrap_u64_id om om]
 refine⟨rF om la,zRg,λy=>∃j:Nat,y.2.1=(j:Int)-1/\j<=a.length/\y.2.2.length=a.length/\Words y.2.2/\(∀k,k<j->y.2.2.getD k 0=0)/\0<=y.1/\y.1<b/\pv y.2.2 a.length*b+y.1*4294967296^j=pv a a.length-pv a j,
  λy=>(y.2.1+1).toNat,⟨a.length,rfl,om,by simp[bT],Words.rep _,λk hk=>?_,om,hb0,?_⟩,?_⟩
 ·show(replicate a.length (0:Int)).getD k 0=0
  rw[List.getD_eq_getElem?_getD,List.getElem?_replicate];split<;>rfl
 ·show pv (replicate a.length (0:Int)) a.length*b+0*_=_
  rw[qB];simp
 rintro⟨r,x,out⟩ ⟨j,hx,hj,hlen,hw,hz,hr0,hr1,hpv⟩
 simp only at hx hj hlen hw hz hr0 hr1 hpv
 subst hx
 have hj1:((j:Int)-1).toNat=j-1:=om
 refine condT (λhc=>⟨⟨om,om⟩,?_⟩) (λhc=>?_)
 ·obtain⟨i,rfl⟩:∃i,j=i+1:=⟨j-1,om⟩
  have ei:((i+1:Nat):Int)-1=(i:Int):=om
  have h0:=ha i
  have e32:(2:Int)^toNat 32=4294967296:=rfl
  rw[ei,gH,e32,wrap_u64_id om om,wrap_u64_id om om,vE 32 h0.1 h0.2 om (by show _ % 4294967296=0;omega) om]
  refine iP ⟨om,⟨om,om⟩,om,zRg,?_,by dsimp only;omega⟩
  generalize hv:r*4294967296+a.getD i 0=v
  have hv0:0<=v:=om
  rw[Int.tdiv_eq_ediv_of_nonneg hv0,Int.tmod_eq_emod_of_nonneg hv0,f_]
  have hq0:0<=v / b:=ediv_nonneg hv0 om
  have hq1:v / b<4294967296:=by
   rw[Int.ediv_lt_iff_lt_mul hb0,<-hv]
   have:r*4294967296<=(b-1)*4294967296:=mul_le_mul_of_nonneg_right om om
   omega
  rw[wrap_u64_id hq0 om,wrap_u32]
  have hqm:v / b % 4294967296=v / b:=om
  rw[hqm]
  refine⟨i,rfl,om,by simp[hlen],hw.set _ hq0 hq1,λk hk=>?_,emod_nonneg _ om,emod_lt_of_pos _ hb0,?_⟩
  ·show(out.set i _).getD k 0=0
   rw[cG om];exact hz k om
  ·show pv (out.set i (v / b)) a.length*b+v % b*_=_
   rw[gX om a.length om,hz i om,sub_zero,add_mul]
   rw[pv,pow_succ] at hpv
   have d0:v=b*(v / b)+v % b:=(mul_ediv_add_emod v b).symm
   have s1:v / b*4294967296^i*b+v % b*4294967296^i=v*4294967296^i:=by
    rw[mul_right_comm,<-add_mul,mul_comm (v / b),<-d0]
   have s2:v*4294967296^i=r*(4294967296^i*4294967296)+a.getD i 0*4294967296^i:=by
    rw[<-hv,add_mul,mul_assoc,mul_comm 4294967296]
   omega
 ·obtain rfl:j=0:=om
  refine cu hw (by unfold SM;omega) ?_
  have a1:=cB hw
  have a2:=cB ha
  rw[hlen] at a1
  simp only[pv,Int.pow_zero,Int.mul_one,sub_zero] at hpv
  rw[<-a1,<-a2] at hpv
  obtain⟨c,rfl⟩:∃c:Nat,b=c:=⟨b.toNat,om⟩
  rw[toNat_natCast] at h
  have hq:val a / c=val out:=by
   have:val a=c*val out+r.toNat:=by
    have:((val a:Nat):Int)=((c*val out+r.toNat:Nat):Int):=by
     rw[natCast_add,natCast_mul,mul_comm];omega
    omega
   rw[this,Nat.add_comm,Nat.add_mul_div_left _ _ om,Nat.div_eq_of_lt om];omega
  have hm:val a % c=r.toNat:=by
   have:val a=c*val out+r.toNat:=by
    have:((val a:Nat):Int)=((c*val out+r.toNat:Nat):Int):=by
     rw[natCast_add,natCast_mul,mul_comm];omega
    omega
   rw[this,Nat.add_comm,Nat.add_mul_mod_self_left,mod_eq_of_lt om]
  rw[hq,hm] at h
  rw[wrap_u32]
  have e:r % 4294967296=((r.toNat:Nat):Int):=om
  rw[e]
  exact h
theorem rE {n:Int} {Q:List Int->Prop} (h1:n<=9223372036854775807) (h:Q (lim n.toNat)):lD n Q:=by
 refine condT (λhc=>?_) (λhc=>?_)
 ·have:n.toNat=0:=om
  rw[this,dr] at h;exact h
 ·have e32:(2:Int)^toNat 32=4294967296:=rfl
  rw[e32,wrap_u32,wrap_u32]
  have hw:Words [n % 4294967296,n / 4294967296 % 4294967296]:=(Words.nil.cons om om).cons om om
  refine cu hw (by simp[SM]) ?_
  have hv:val [n % 4294967296,n / 4294967296 % 4294967296]=n.toNat:=by
   rw[ky hw,ky hw.tail,nT];omega
  rw[hv];exact h
theorem C7 {a:List Int} (ha:Words a) {i:Nat} (hz:∀k,i<k->k<a.length->a.getD k 0=0) (hi:i<a.length) (hn:a.getD i 0≠0):(cc (val a):Int)=32*i+cc (a.getD i 0).toNat:=by
 have h0:=ha i
 have a1:=cB ha
 rw[oc (j:=i+1) a.length hi (λk h1 h2=>hz k om h2),pv] at a1
 obtain⟨b1,b2⟩:=bz ha i
 obtain⟨x,hx⟩:∃x:Nat,a.getD i 0=x:=⟨(a.getD i 0).toNat,om⟩
 rw[hx] at a1 hn h0 ⊢
 rw[toNat_natCast]
 have hx0:x≠0:=om
 have c1:=pU (n:=x)
 have c2:=ox hx0
 have hb:cc x≠0:=by unfold cc;rw[if_neg hx0];omega
 have ew:((4294967296^i:Nat):Int)=(4294967296:Int)^i:=by simp
 have e1:val a=(pv a i).toNat+x*4294967296^i:=by
  have:(val a:Int)=(((pv a i).toNat+x*4294967296^i:Nat):Int):=by
   rw[a1,natCast_add,natCast_mul,ew];omega
  omega
 have hlt:(pv a i).toNat<4294967296^i:=om
 have hpw:(4294967296:Nat)^i=2^(32*i):=by rw[pow_mul]
 have:cc (val a)=32*i+cc x:=by
  refine ta ?_ (λ_=>?_)
  ·rw[e1,Nat.pow_add,<-hpw]
   have:(x+1)*4294967296^i<=2^cc x*4294967296^i:=Nat.mul_le_mul_right _ c1
   rw[Nat.add_mul,Nat.mul_comm (2^cc x)] at this
   omega
  ·have e:32*i+cc x-1=32*i+(cc x-1):=om
   rw[e1,e,Nat.pow_add,<-hpw]
   have:2^(cc x-1)*4294967296^i<=x*4294967296^i:=Nat.mul_le_mul_right _ c2
   rw[Nat.mul_comm (2^(cc x-1))] at this
   omega
 omega
theorem vJ {a:List Int} {Q:Int->Prop} (ha:Words a) (la:SM a) (h:Q (cc (val a))):mc a Q:=by
 unfold SM at la
 refine⟨zRg,λx=>∃j:Nat,x=(j:Int)-1/\j<=a.length/\∀k,j<=k->k<a.length->a.getD k 0=0,λx=>(x+1).toNat,⟨a.length,rfl,om,λk h1 h2=>om⟩,?_⟩
 rintro _ ⟨j,rfl,hj,hz⟩
 refine condT (λhc=>⟨⟨om,om⟩,?_⟩) (λhc=>?_)
 ·obtain⟨i,rfl⟩:∃i,j=i+1:=⟨j-1,om⟩
  have ei:((i+1:Nat):Int)-1=(i:Int):=om
  rw[ei,gH]
  have h0:=ha i
  refine fJ (λhn=>⟨zRg,⟨om,om⟩,?_⟩) (λhe=>⟨zRg,⟨i,rfl,om,λk h1 h2=>?_⟩,by dsimp only;omega⟩)
  ·have hb:=C7 ha (λk h1 h2=>hz k om h2) om hn
   obtain⟨x,hx⟩:∃x:Nat,a.getD i 0=x:=⟨(a.getD i 0).toNat,om⟩
   rw[hx] at hb ⊢
   rw[toNat_natCast] at hb
   have h32:=pV (x:=x) om
   refine BR om ⟨zRg,?_⟩
   rw[<-hb];exact h
  ·by_cases hk:k=i
   ·subst hk;exact he
   ·exact hz k om h2
 ·obtain rfl:j=0:=om
  have:val a=0:=by
   have a1:=cB ha
   rw[oc (j:=0) a.length om (λk h1 h2=>hz k h1 h2)] at a1
   simp only[pv] at a1;omega
  rw[this,xJ] at h
  exact h
theorem gE {l:List Int} {j i:Nat}:(l.drop j).getD i 0=l.getD (j+i) 0:=by
 rw[List.getD_eq_getElem?_getD,List.getD_eq_getElem?_getD,List.getElem?_drop]
theorem tG {l:List Int} {o i:Nat} {x:Int} (h:o+i<l.length):pv ((l.set (o+i) x).drop o) (i+1)=pv (l.drop o) i+x*4294967296^i:=by
 rw[pv,gE,kw h]
 congr 1
 exact kF i (λk hk=>by rw[gE,gE,cG om])
theorem vH {u v:List Int} {o n:Nat} {g:Int} {Q:List Int->Bool->Prop} (hu:Words u) (hv:Words v) (lu:SM u) (ho:o+n<=u.length) (hn:v.length<n) (hg0:0<=g) (hg1:g<4294967296)
  (h:∀(w:List Int) (b:Int),Words w->w.length=u.length->(∀k,k<o\/o+n<=k->w.getD k 0=u.getD k 0)->(b=0\/b=1)->pv (w.drop o) n=pv (u.drop o) n-g*val v+b*4294967296^n->Q w (b == 1)) :
  ma u o n v g Q:=by
 unfold SM at lu
 refine⟨λy=>∃i:Nat,y.2.2.1=i/\i<=n/\y.2.2.2.length=u.length/\Words y.2.2.2/\(∀k,k<o\/o+i<=k->y.2.2.2.getD k 0=u.getD k 0)/\0<=y.1/\y.1<4294967296/\0<=y.2.1/\y.2.1<=1/\0<=g*pv v i-y.1*4294967296^i/\g*pv v i-y.1*4294967296^i<4294967296^i/\
   pv (y.2.2.2.drop o) i=pv (u.drop o) i-(g*pv v i-y.1*4294967296^i)+y.2.1*4294967296^i,λy=>n-y.2.2.1.toNat,
  ⟨0,rfl,om,rfl,hu,λ_ _=>rfl,le_refl 0,by show(0:Int)<4294967296;omega,le_refl 0,by show(0:Int)<=1;omega,by simp[pv],by simp[pv],by simp[pv]⟩,?_⟩
 rintro⟨c,b,x,w⟩ ⟨i,hx,hi,hlen,hw,hz,hc0,hc1,hb0,hb1,hl0,hl1,hpv⟩
 simp only at hx hi hlen hw hz hc0 hc1 hb0 hb1 hl0 hl1 hpv
 subst hx
 have hvi:=hv i
 have hwi:=hw (o+i)
 have eoi:(o:Int)+(i:Int)=((o+i:Nat):Int):=om
 refine condT (λhlt=>d_ hv ?_) (λhge=>?_)
 ·have hm0:0<=g*v.getD i 0:=mul_nonneg hg0 hvi.1
  have hm1:g*v.getD i 0<=4294967295*4294967295:=mul_le_mul om om hvi.1 om
  rw[wrap_u64_id hm0 om,wrap_u64_id om om]
  refine iP ⟨⟨om,hlt⟩,om,?_⟩
  rw[eoi,gH]
  generalize hc':c+g*v.getD i 0=d at *
  rw[wrap_u64_id hwi.1 om,wrap_u32,wrap_u64_id (m:=d % 4294967296) om om]
  obtain⟨q1,q2,q3⟩:=uK (w.getD (o+i) 0) (d % 4294967296) b hwi om ⟨hb0,hb1⟩
  refine iP ⟨⟨om,hlt⟩,om,zRg,?_,by dsimp only;omega⟩
  generalize IntKind.u64.wrap (IntKind.u64.wrap (w.getD (o+i) 0-d % 4294967296)-b)=e at *
  have e63:e / 2^toNat 63=e / 9223372036854775808:=rfl
  have e32:d / 2^toNat 32=d / 4294967296:=rfl
  rw[e63,e32,f_,wrap_u32]
  have hP:=fw i
  have p1:pv (u.drop o) (i+1)=pv (u.drop o) i+w.getD (o+i) 0*4294967296^i:=by rw[pv,gE,hz (o+i) om]
  have p2:g*pv v (i+1)=g*pv v i+g*v.getD i 0*4294967296^i:=by rw[pv,mul_add,mul_assoc]
  have p3:=pow_succ (4294967296:Int) i
  have p0:=tG (l:=w) (o:=o) (i:=i) (x:=e % 4294967296) om
  generalize (4294967296:Int)^i=P at *
  have s1:=mC d P
  have s3:d*P=c*P+g*v.getD i 0*P:=by rw[<-hc',add_mul]
  have s5:d % 4294967296*P<=4294967295*P:=mul_le_mul_of_nonneg_right om om
  have s6:0<=d % 4294967296*P:=mul_nonneg om om
  refine⟨i+1,rfl,om,by simp[hlen],hw.set _ om om,λk hk=>?_,by show 0<=d / 4294967296;omega,by show d / 4294967296<4294967296;omega,q2,q3,?_,?_,?_⟩
  ·show(w.set (o+i) _).getD k 0=_
   rw[cG om];exact hz k om
  ·show 0<=g*pv v (i+1)-d / 4294967296*4294967296^(i+1)
   rw[p2,p3];omega
  ·show g*pv v (i+1)-d / 4294967296*4294967296^(i+1)<4294967296^(i+1)
   rw[p2,p3];omega
  ·show pv ((w.set (o+i) (e % 4294967296)).drop o) (i+1)=pv (u.drop o) (i+1)-(g*pv v (i+1)-d / 4294967296*4294967296^(i+1))+e / 9223372036854775808*4294967296^(i+1)
   rw[p0,hpv,p1,p2,p3]
   have s0:e % 4294967296=w.getD (o+i) 0-d % 4294967296-b+4294967296*(e / 9223372036854775808):=om
   rw[s0]
   generalize e / 9223372036854775808=b' at *
   have s4:(w.getD (o+i) 0-d % 4294967296-b+4294967296*b')*P=w.getD (o+i) 0*P-d % 4294967296*P-b*P+b'*(P*4294967296):=by
    rw[add_mul,sub_mul,sub_mul,mul_comm 4294967296 b',mul_assoc b',mul_comm 4294967296 P]
   rw[s4]
   generalize d / 4294967296=d' at *
   generalize d % 4294967296=d'' at *
   clear q1 q2 q3 s0 s4 s5 s6 hpv
   omega
 ·obtain rfl:i=n:=om
  refine h w b hw hlen hz om ?_
  have a1:=eK hv (i:=i) om
  have hc:c=0:=by
   have hv1:=eK hv (i:=i-1) om
   have hb':=(bz hv (i-1)).2
   have hw0:=bz hw 0
   obtain⟨m,rfl⟩:∃m,i=m+1:=⟨i-1,om⟩
   rw[Nat.add_sub_cancel] at hv1 hb'
   have hP:=fw m
   rw[pow_succ] at hpv
   have hgv:g*pv v (m+1)<=4294967295*(4294967296^m-1):=by
    rw[<-a1,hv1]
    exact mul_le_mul om om (bz hv m).1 om
   rw[pow_succ] at hl0
   generalize (4294967296:Int)^m=P at *
   rcases lt_or_le 0 c with hc | hc
   ·have:1*(P*4294967296)<=c*(P*4294967296):=mul_le_mul_of_nonneg_right om om
    omega
   ·omega
  subst hc
  rw[a1]
  rw[hpv];omega
theorem vI {u v:List Int} {o n:Nat} {Q:List Int->Prop} (hu:Words u) (hv:Words v) (lu:SM u) (ho:o+n<=u.length) (hn:v.length<=n)
  (h:∀(w:List Int) (c:Int),Words w->w.length=u.length->(∀k,k<o\/o+n<=k->w.getD k 0=u.getD k 0)->(c=0\/c=1)->pv (w.drop o) n+c*4294967296^n=pv (u.drop o) n+val v->Q w) :
  mb u o n v Q:=by
 unfold SM at lu
 refine⟨λy=>∃i:Nat,y.2.1=i/\i<=n/\y.2.2.length=u.length/\Words y.2.2/\(∀k,k<o\/o+i<=k->y.2.2.getD k 0=u.getD k 0)/\0<=y.1/\y.1<=1/\
   pv (y.2.2.drop o) i+y.1*4294967296^i=pv (u.drop o) i+pv v i,λy=>n-y.2.1.toNat,
  ⟨0,rfl,om,rfl,hu,λ_ _=>rfl,le_refl 0,by show(0:Int)<=1;omega,by simp[pv]⟩,?_⟩
 rintro⟨c,x,w⟩ ⟨i,hx,hi,hlen,hw,hz,hc0,hc1,hpv⟩
 simp only at hx hi hlen hw hz hc0 hc1 hpv
 subst hx
 have hvi:=hv i
 have hwi:=hw (o+i)
 have eoi:(o:Int)+(i:Int)=((o+i:Nat):Int):=om
 refine condT (λhlt=>⟨⟨om,hlt⟩,om,v.getD i 0,d_ hv rfl,⟨om,hlt⟩,om,?_⟩) (λhge=>?_)
 ·rw[eoi,gH,wrap_u64_id hwi.1 om,wrap_u64_id (m:=w.getD (o+i) 0+v.getD i 0) om om,wrap_u64_id om om]
  refine iP ⟨zRg,?_,by dsimp only;omega⟩
  have e32:∀d:Int,d / 2^toNat 32=d / 4294967296:=λ_=>rfl
  rw[e32,f_,wrap_u32]
  generalize hd:c+(w.getD (o+i) 0+v.getD i 0)=d
  refine⟨i+1,rfl,om,by simp[hlen],hw.set _ om om,λk hk=>?_,by show 0<=d / 4294967296;omega,by show d / 4294967296<=1;omega,?_⟩
  ·show(w.set (o+i) _).getD k 0=_
   rw[cG om];exact hz k om
  ·show pv ((w.set (o+i) (d % 4294967296)).drop o) (i+1)+d / 4294967296*4294967296^(i+1)=pv (u.drop o) (i+1)+pv v (i+1)
   have p0:=tG (l:=w) (o:=o) (i:=i) (x:=d % 4294967296) om
   have p1:pv (u.drop o) (i+1)=pv (u.drop o) i+w.getD (o+i) 0*4294967296^i:=by rw[pv,gE,hz (o+i) om]
   have p2:pv v (i+1)=pv v i+v.getD i 0*4294967296^i:=by rw[pv]
   rw[p0,p1,p2,pow_succ]
   have s1:=mC d (4294967296^i)
   have s3:d*4294967296^i=c*4294967296^i+(w.getD (o+i) 0*4294967296^i+v.getD i 0*4294967296^i):=by rw[<-hd,add_mul,add_mul]
   omega
 ·obtain rfl:i=n:=om
  have a1:=eK hv (i:=i) om
  exact h w c hw hlen hz om (by rw[a1];exact hpv)
theorem j0 {a b c:Nat} (h:a+b=c):(2:Int)^a*2^b=2^c:=by rw[<-pow_add,h]
theorem zT {V P B top nx vl head th pl g:Int} (hV:V=(top*4294967296+nx)*B+vl) (hvl:0<=vl) (hP:P=(head*4294967296+th)*B+pl) (hpl:pl<B) (hB:0<B) (hg:0<=g)
  (h:head*4294967296+th<g*(top*4294967296+nx)):P<g*V:=by
 have h1:(head*4294967296+th+1)*B<=g*(top*4294967296+nx)*B:=mul_le_mul_of_nonneg_right om om
 have h2:0<=g*vl:=mul_nonneg hg hvl
 rw[hV,mul_add,<-mul_assoc]
 rw[add_mul] at h1
 omega
theorem zU {V P B top nx vl head th pl g:Int} (hV:V=(top*4294967296+nx)*B+vl) (hvl0:0<=vl) (hvl:vl<B) (hP:P=(head*4294967296+th)*B+pl) (hpl:0<=pl) (hg0:0<=g) (hg:g<4294967296) (hVB:4294967296*B<=V)
  (h:g*(top*4294967296+nx)<=head*4294967296+th):(g-1)*V<=P:=by
 have h1:g*(top*4294967296+nx)*B<=(head*4294967296+th)*B:=mul_le_mul_of_nonneg_right h om
 have h2:g*vl<=4294967296*B:=mul_le_mul om om hvl0 om
 rw[sub_mul,hV,mul_add,<-mul_assoc]
 rw[<-hV]
 omega
theorem nD {l:List Int} {i:Nat}:∀n,pv l (i+n)=pv l i+pv (l.drop i) n*4294967296^i
 | 0=>by simp[pv]
 | n+1=>by
  rw[<-Nat.add_assoc,pv,nD n,pv,gE,add_mul,pow_add,mul_assoc (l.getD (i+n) 0),mul_comm (4294967296^n)]
  omega
theorem yg {l m:List Int} {i n:Nat} (h:∀k,k<i\/i+n<=k->l.getD k 0=m.getD k 0):∀M,i+n<=M->pv l M-pv m M=(pv (l.drop i) n-pv (m.drop i) n)*4294967296^i
 | 0,hM=>by
  have h1:i=0:=om
  have h2:n=0:=om
  subst h1 h2
  simp[pv]
 | M+1,hM=>by
  by_cases he:i+n=M+1
  ·rw[<-he,nD,nD,kF i (λk hk=>h k (.inl hk)),sub_mul];omega
  ·rw[pv,pv,h M (.inr om)]
   have:=yg h M om
   omega
theorem ym {n:Nat} (h:n≠0):(lim n).getD ((lim n).length-1) 0≠0:=by
 induction n using Nat.strongRecOn with
 | _ n ih=>
  rw[gg om]
  simp only[List.length_cons,Nat.add_sub_cancel]
  by_cases h0:n / 4294967296=0
  ·rw[h0,dr];simp;omega
  ·have h1:=ih _ (Nat.div_lt_self om om) h0
   have h2:(lim (n / 4294967296)).length≠0:=by rw[gg om];simp
   obtain⟨k,hk⟩:∃k,(lim (n / 4294967296)).length=k+1:=⟨_,(Nat.succ_pred_eq_of_ne_zero h2).symm⟩
   rw[hk] at h1 ⊢
   simpa using h1
theorem A3 {top nx hd1 hd2 th V P B vl pl:Int} {next3:Int->Prop} {G1 G2 G3:Prop} (hG1:G1) (hG2:G2) (hG3:G3) (htop0:2147483648<=top) (htop:top<4294967296) (hnx:0<=nx/\nx<4294967296) (h1:0<=hd1/\hd1<=top) (h2:0<=hd2/\hd2<4294967296) (h3:0<=th/\th<4294967296)
  (hV:V=(top*4294967296+nx)*B+vl) (hvl:0<=vl/\vl<B) (hP:P=((hd1*4294967296+hd2)*4294967296+th)*B+pl) (hpl:0<=pl/\pl<B) (hB:0<B) (hPV:P<V*4294967296)
  (hn:∀g,0<=g->g<4294967296->P<(g+1)*V->(g-1)*V<=P->next3 g) :
  bn (σ:=Int×Int) (IntKind.u64.wrap (Int.tdiv (hd1*4294967296+hd2) top),Int.tmod (hd1*4294967296+hd2) top) λ⟨guess2,rest⟩ next4=>
   dt (α:=Unit) (λnext5=>an (decide (4294967296<=guess2)) (next5 ()) (G1/\G2/\G3/\an (decide (bits .or .u64 (IntKind.u64.wrap (rest*4294967296)) th<IntKind.u64.wrap (guess2*nx))) (next5 ()) (next3 guess2)))
    λ_=>lq (IntKind.u64.wrap (rest+top)) λrest1=>an (decide (4294967296<=rest1)) (next3 (IntKind.u64.wrap (guess2-1))) (next4 (IntKind.u64.wrap (guess2-1),rest1)):=by
 have hhd0:0<=hd1*4294967296+hd2:=om
 have hVB:4294967296*B<=V:=by
  have:4294967296*B<=(top*4294967296+nx)*B:=mul_le_mul_of_nonneg_right om om
  omega
 generalize hhd:hd1*4294967296+hd2=head at *
 have hhead:head<=top*4294967296+4294967295:=om
 have hq0:0<=head / top:=ediv_nonneg hhd0 om
 have hr0:0<=head % top:=emod_nonneg _ om
 have hr1:head % top<top:=emod_lt_of_pos _ om
 have hde:head=top*(head / top)+head % top:=(mul_ediv_add_emod head top).symm
 have hqu:head / top<4294967298:=by
  rw[Int.ediv_lt_iff_lt_mul om];omega
 rw[Int.tdiv_eq_ediv_of_nonneg hhd0,Int.tmod_eq_emod_of_nonneg hhd0,wrap_u64_id hq0 om]
 refine⟨λy=>0<=y.1/\y.1<4294967298/\0<=y.2/\y.2<4294967296/\head=y.1*top+y.2/\P<(y.1+1)*V,λy=>y.1.toNat,⟨hq0,hqu,hr0,by show head % top<_;omega,by show head=head / top*top+head % top;rw[mul_comm];exact hde,?_⟩,?_⟩
 ·show P<(head / top+1)*V
  refine zT hV hvl.1 hP hpl.2 hB om ?_
  have a1:(head / top+1)*top=top*(head / top)+top:=by rw[add_mul,mul_comm];omega
  have a2:(head / top+1)*(top*4294967296+nx)=(head / top+1)*top*4294967296+(head / top+1)*nx:=by rw[mul_add,mul_assoc]
  have a3:0<=(head / top+1)*nx:=mul_nonneg om hnx.1
  omega
 rintro⟨g,r⟩ ⟨hg0,hg1,hr0,hr1,hh,hU⟩
 simp only at hg0 hg1 hr0 hr1 hh hU
 have hexp:g*(top*4294967296+nx)=(g*top)*4294967296+g*nx:=by rw[mul_add,mul_assoc]
 refine⟨λ_=>P<g*V,condT (λhc=>?_) (λhc=>⟨hG1,hG2,hG3,?_⟩),λ_ hlt=>?_⟩
 ·have:V*4294967296<=g*V:=by rw[mul_comm V];exact mul_le_mul_of_nonneg_right hc om
  omega
 ·have hgn0:0<=g*nx:=mul_nonneg hg0 hnx.1
  have hgn1:g*nx<=4294967295*4294967295:=mul_le_mul om om hnx.1 om
  rw[wrap_u64_id (m:=r*4294967296) om om,wrap_u64_id hgn0 om,vE 32 h3.1 h3.2 om (by show _ % 4294967296=0;omega) om]
  refine condT (λhgt=>?_) (λhle=>?_)
  ·exact zT hV hvl.1 hP hpl.2 hB hg0 om
  ·exact hn g hg0 om hU (zU hV hvl.1 hvl.2 hP hpl.1 hg0 om hVB om)
 ·have hg1':1<=g:=by
   rcases lt_or_le g 1 with h | h
   ·have:g=0:=om
    subst this
    have hP0:0<=P:=by
     rw[hP]
     have:0<=(head*4294967296+th)*B:=mul_nonneg om om
     omega
    simp at hlt;omega
   ·exact h
  rw[wrap_u64_id (m:=r+top) om om,wrap_u64_id (m:=g-1) om om]
  have hsub:(g-1)*top=g*top-top:=by rw[sub_mul];omega
  have hexp2:(g-1)*(top*4294967296+nx)=((g-1)*top)*4294967296+(g-1)*nx:=by rw[mul_add,mul_assoc]
  refine iP (condT (λhc=>?_) (λhc=>⟨⟨by show 0<=g-1;omega,by show g-1<_;omega,by show 0<=r+top;omega,by show r+top<_;omega,by show head=(g-1)*top+(r+top);omega,by show P<(g-1+1)*V;rw[Int.sub_add_cancel];exact hlt⟩,by show(g-1).toNat<g.toNat;omega⟩))
  have hgW:g-1<4294967296:=by
   rcases lt_or_le (g-1) 4294967296 with h | h
   ·exact h
   ·have:4294967296*top<=(g-1)*top:=mul_le_mul_of_nonneg_right h om
    omega
  have hgn1:(g-1)*nx<=4294967295*4294967295:=mul_le_mul om om hnx.1 om
  refine hn (g-1) om hgW (by rw[Int.sub_add_cancel];exact hlt) (zU hV hvl.1 hvl.2 hP hpl.1 om hgW hVB om)
set_option maxHeartbeats 2000000 in
theorem nj {a b:List Int} {Q:List Int->List Int->Option Int->Prop} (ha:Words a) (hb:Words b) (la:a.length<=1099511627774) (lb:b.length<=1099511627774)
  (h0:val b=0->Q [] [] (some 8)) (h:val b≠0->Q (lim (val a / val b)) (lim (val a % val b)) none):iO a b Q:=by
 refine cu ha (by unfold SM;omega) (cu hb (by unfold SM;omega) ?_)
 have b1:=dM ha
 have b2:=dM hb
 have w1:=aI (val a)
 have w2:=aI (val b)
 have v1:=ba (val a)
 have v2:=ba (val b)
 refine bV (λhc=>?_) (λhc=>?_)
 ·have:(lim (val b)).length=0:=om
  have:lim (val b)=[]:=eq_nil_of_length_eq_zero this
  rw[this,nT] at v2
  exact h0 v2.symm
 have hB:val b≠0:=by intro hh;rw[hh,dr] at hc;exact hc rfl
 replace h:=h hB
 clear h0
 refine gD w1 w2 (by unfold SM;omega) (by unfold SM;omega) ?_
 rw[v1,v2]
 refine condT (λhlt=>?_) (λhge=>bV (λh1=>?_) (λh1=>?_))
 ·have:=lH.1 hlt
  rw[Nat.div_eq_of_lt this,mod_eq_of_lt this,dr] at h
  exact h
 ·
  have hl1:(lim (val b)).length=1:=om
  have hw0:=w2 0
  have hbv:(val b:Int)=(lim (val b)).getD 0 0:=by
   have:=cB w2
   rw[v2,hl1] at this
   simpa[pv] using this
  refine⟨⟨om,om⟩,?_⟩
  have e0:at' (lim (val b)) 0=(val b:Int):=by rw[hbv];rfl
  rw[e0]
  have hm:val a % val b<val b:=mod_lt _ om
  refine ua w1 (by unfold SM;omega) om om ?_
  rw[v1,toNat_natCast,jt zRg]
  refine rE om ?_
  rw[toNat_natCast]
  exact h
 obtain⟨m,hm⟩:∃m,(lim (val b)).length=m+2:=⟨(lim (val b)).length-2,om⟩
 have hge':val b<=val a:=by
  rcases lt_or_ge (val a) (val b) with hh | hh
  ·exact absurd (lH.2 hh) hge
  ·exact hh
 have hlen:m+2<=(lim (val a)).length:=by rw[<-hm];exact cX hge'
 generalize hA:val a=A at *
 generalize hBv:val b=B at *
 have htop:=ym hB
 have hbd:(val (lim B):Int)=_:=cB w2
 rw[v2] at hbd
 have hAp:(A:Int)<4294967296^(lim A).length:=by
  have:=(bz w1 (lim A).length).2
  have e:=cB w1
  rw[v1] at e;omega
 generalize hla:lim A=al at *
 generalize hlb:lim B=bl at *
 rw[hm] at htop hbd
 have e21:m+2-1=m+1:=om
 rw[e21] at htop
 have hwt:=w2 (m+1)
 have hml:(bl.length:Int)-1=((m+1:Nat):Int):=om
 rw[hml]
 obtain⟨tp,htp⟩:∃x:Nat,bl.getD (m+1) 0=x:=⟨(bl.getD (m+1) 0).toNat,om⟩
 refine⟨zRg,⟨om,om⟩,?_⟩
 rw[gH,htp]
 rw[htp] at htop hwt
 have htp0:tp≠0:=om
 have c1:=pU (n:=tp)
 have c2:=ox htp0
 have c3:=pV (x:=tp) om
 have c4:cc tp≠0:=by unfold cc;rw[if_neg htp0];omega
 refine HA om ?_
 obtain⟨s,hs⟩:∃s,32-cc tp=s:=⟨_,rfl⟩
 rw[hs]
 have hs31:s<=31:=om
 refine ph w2 om om (λr4 hr4 hr4l hr4v=>?_)
 rw[hm] at hr4l
 rw[v2] at hr4v
 refine⟨⟨om,om,om⟩,iP ?_⟩
 have hvl:(cg r4 0 (bl.length:Int))=r4.take (m+2):=by
  show(r4.drop 0).take (((bl.length:Nat):Int).toNat-0)=_
  rw[toNat_natCast,hm];rfl
 rw[hvl]
 have hvlen:(r4.take (m+2)).length=m+2:=by rw[List.length_take,hr4l];omega
 have hPm:=fw m
 have ew:(4294967296:Int)^(m+2)=4294967296^m*4294967296*4294967296:=by rw[pow_succ,pow_succ]
 have ew1:(4294967296:Int)^(m+1)=4294967296^m*4294967296:=pow_succ ..
 have hbd2:(B:Int)=pv bl m+bl.getD m 0*4294967296^m+tp*(4294967296^m*4294967296):=by rw[hbd,pv,pv,htp,ew1]
 have hbm:=bz w2 m
 have hbm1:=w2 m
 have hlow:bl.getD m 0*4294967296^m<=4294967295*4294967296^m:=mul_le_mul_of_nonneg_right om om
 have hlow0:0<=bl.getD m 0*4294967296^m:=mul_nonneg hbm1.1 om
 have hps:=fO s
 have hts:(tp:Int)*2^s<4294967296/\2147483648<=(tp:Int)*2^s:=by
  have e1:(2:Int)^(cc tp)*2^s=4294967296:=j0 (c:=32) om
  have e2:(2:Int)^(cc tp-1)*2^s=2147483648:=j0 (c:=31) om
  have f1:(tp:Int)+1<=2^(cc tp):=by exact_mod_cast c1
  have f2:(2:Int)^(cc tp-1)<=tp:=by exact_mod_cast c2
  have g1:((tp:Int)+1)*2^s<=2^(cc tp)*2^s:=mul_le_mul_of_nonneg_right f1 om
  have g2:(2:Int)^(cc tp-1)*2^s<=tp*2^s:=mul_le_mul_of_nonneg_right f2 om
  rw[add_mul] at g1
  omega
 have hVval:((val r4:Nat):Int)=(B:Int)*2^s:=by rw[hr4v];simp
 have hr4p:=cB hr4
 rw[hr4l] at hr4p
 have hVlt:(val r4:Int)<4294967296^(m+2):=by
  have k1:(B:Int)+1<=(tp+1)*(4294967296^m*4294967296):=by rw[add_mul];omega
  have k2:((B:Int)+1)*2^s<=((tp+1)*(4294967296^m*4294967296))*2^s:=mul_le_mul_of_nonneg_right k1 om
  have k3:(((tp:Int)+1)*2^s)<=4294967296:=by
   have f1:(tp:Int)+1<=2^(cc tp):=by exact_mod_cast c1
   have e1:(2:Int)^(cc tp)*2^s=4294967296:=j0 (c:=32) om
   have g1:((tp:Int)+1)*2^s<=2^(cc tp)*2^s:=mul_le_mul_of_nonneg_right f1 om
   omega
  have k4:(((tp:Int)+1)*2^s)*(4294967296^m*4294967296)<=4294967296*(4294967296^m*4294967296):=mul_le_mul_of_nonneg_right k3 om
  rw[mul_right_comm] at k2
  rw[add_mul] at k2
  rw[hVval,ew]
  omega
 have hVge:2147483648*(4294967296^m*4294967296)<=(val r4:Int):=by
  have k1:(tp:Int)*(4294967296^m*4294967296)<=B:=om
  have k2:(tp:Int)*(4294967296^m*4294967296)*2^s<=B*2^s:=mul_le_mul_of_nonneg_right k1 om
  have k3:2147483648*(4294967296^m*4294967296)<=(tp:Int)*2^s*(4294967296^m*4294967296):=mul_le_mul_of_nonneg_right hts.2 om
  rw[mul_right_comm] at k2
  omega
 have hVp:(val r4:Int)=pv (r4.take (m+2)) (m+2):=by
  rw[hr4p] at hVlt ⊢
  rw[BA (Nat.le_refl _)]
  exact rm hr4 om hVlt
 have hwv:Words (r4.take (m+2)):=hr4.take _
 have hvv:val (r4.take (m+2))=val r4:=by
  have:=cB hwv
  rw[hvlen,<-hVp] at this;omega
 generalize hv:r4.take (m+2)=v at *
 generalize hVV:val r4=V at *
 clear hr4 hr4l hr4p hvl
 refine ph w1 om om (λu hu hul huv=>?_)
 rw[v1] at huv
 have hvl1:(v.length:Int)-1=((m+1:Nat):Int):=om
 have hvl2:(v.length:Int)-2=(m:Int):=om
 obtain⟨K,hK⟩:∃K,al.length=K+(m+2):=⟨al.length-(m+2),om⟩
 have hkl:(u.length:Int)-(v.length:Int)=((K+1:Nat):Int):=om
 rw[hvl1,hvl2,hkl]
 refine⟨zRg,⟨om,om⟩,zRg,⟨om,om⟩,zRg,rF om om,zRg,iP ?_⟩
 rw[toNat_natCast]
 have hU:(val u:Int)<V*4294967296^(K+1):=by
  have k0:((val u:Nat):Int)=(A:Int)*2^s:=by rw[huv];simp
  have k1:(2:Int)^s<=2147483648:=by
   have:(2:Int)^s*2^(31-s)=2147483648:=j0 (c:=31) om
   have h2:=fO (31-s)
   have:(2:Int)^s*1<=2^s*2^(31-s):=mul_le_mul_of_nonneg_left om om
   omega
  have k2:(A:Int)*2^s<4294967296^al.length*2^s:=Int.mul_lt_mul_of_pos_right hAp hps
  have k3:(4294967296:Int)^al.length*2^s<=4294967296^al.length*2147483648:=mul_le_mul_of_nonneg_left k1 (by have:=fw al.length;omega)
  have k4:(4294967296:Int)^al.length=4294967296^m*4294967296*4294967296^(K+1):=by
   rw[hK,<-pow_succ,<-pow_add];congr 1;omega
  rw[k4] at k2 k3
  have k6:(2147483648:Int)*(4294967296^m*4294967296*4294967296^(K+1))=4294967296^m*4294967296*4294967296^(K+1)*2147483648:=mul_comm _ _
  have k7:(2147483648:Int)*(4294967296^m*4294967296)*4294967296^(K+1)=2147483648*(4294967296^m*4294967296*4294967296^(K+1)):=mul_assoc ..
  have hPK:=fw (K+1)
  have k8:(2147483648:Int)*(4294967296^m*4294967296)*4294967296^(K+1)<=(V:Int)*4294967296^(K+1):=mul_le_mul_of_nonneg_right hVge (le_of_lt hPK)
  omega
 have hup:=cB hu
 have hulk:u.length=K+m+3:=om
 rw[hulk] at hup
 have hvm:=hwv m
 have hvm1:=hwv (m+1)
 have hVexp:(V:Int)=(v.getD (m+1) 0*4294967296+v.getD m 0)*4294967296^m+pv v m:=by
  rw[hVp,pv,pv,ew1,add_mul,mul_assoc,mul_comm 4294967296];omega
 have hvlo:=bz hwv m
 have htopge:2147483648<=v.getD (m+1) 0:=by
  rcases lt_or_le (v.getD (m+1) 0) 2147483648 with hh | hh
  ·exfalso
   have k1:(v.getD (m+1) 0*4294967296+v.getD m 0+1)*4294967296^m<=(2147483647*4294967296+4294967296)*4294967296^m:=mul_le_mul_of_nonneg_right om om
   rw[add_mul] at k1
   omega
  ·exact hh
 have hV0:0<(V:Int):=om
 refine⟨λy=>∃j:Nat,y.1=(j:Int)-1/\j<=K+1/\y.2.1.length=K+m+3/\Words y.2.1/\y.2.2.length=K+1/\Words y.2.2/\(∀k,k<j->y.2.2.getD k 0=0)/\
   (val u:Int)=pv y.2.2 (K+1)*V+pv y.2.1 (K+m+3)/\pv y.2.1 (K+m+3)<V*4294967296^j,λy=>(y.1+1).toNat,
  ⟨K+1,rfl,Nat.le_refl _,hulk,hu,by simp[bT],Words.rep _,λk hk=>?_,?_,?_⟩,?_⟩
 ·show(replicate (K+1) (0:Int)).getD k 0=0
  rw[List.getD_eq_getElem?_getD,List.getElem?_replicate];split<;>rfl
 ·show(val u:Int)=pv (replicate (K+1) (0:Int)) (K+1)*V+pv u (K+m+3)
  rw[qB,<-hup];omega
 ·show pv u (K+m+3)<_
  rw[<-hup];exact hU
 clear hU hup hulk hul hu
 rintro⟨x,u1,q⟩ ⟨j,hx,hj,hul1,hu1,hql,hq,hqz,hsum,hrem⟩
 simp only at hx hj hul1 hu1 hql hq hqz hsum hrem
 subst hx
 refine condT (λhc=>?_) (λhc=>?_)
 ·obtain⟨i,rfl⟩:∃i,j=i+1:=⟨j-1,om⟩
  have ei:((i+1:Nat):Int)-1=(i:Int):=om
  have f1:(i:Int)+(v.length:Int)=((i+(m+2):Nat):Int):=om
  have f2:((i+(m+2):Nat):Int)-1=((i+(m+1):Nat):Int):=om
  have f3:((i+(m+2):Nat):Int)-2=((i+m:Nat):Int):=om
  have f4:((i+(m+2):Nat):Int)+1=((i+(m+3):Nat):Int):=om
  have f5:0+toNat (i:Int)=i:=om
  have f6:toNat ((i+(m+3):Nat):Int)-toNat (i:Int)=m+3:=om
  have h1:=hu1 (i+(m+2))
  have h2:=hu1 (i+(m+1))
  have h3:=hu1 (i+m)
  have e32:(2:Int)^toNat 32=4294967296:=rfl
  have g1:=wrap_u64_id (m:=u1.getD (i+(m+2)) 0) om om
  have g2:=wrap_u64_id (m:=u1.getD (i+(m+1)) 0) om om
  have g3:=wrap_u64_id (m:=u1.getD (i+m) 0) om om
  have g4:=wrap_u64_id (m:=v.getD (m+1) 0) om om
  have g5:=wrap_u64_id (m:=v.getD m 0) om om
  have g6:=wrap_u64_id (m:=u1.getD (i+(m+2)) 0*4294967296) om om
  have g7:=vE (x:=u1.getD (i+(m+1)) 0) (y:=u1.getD (i+(m+2)) 0*4294967296) 32 h2.1 h2.2 om (by show _ % 4294967296=0;omega) om
  simp only[ei,f1,f2,f3,f4,f5,f6,gH,e32,g1,g2,g3,g4,g5,g6,g7]
  obtain⟨P,hPd⟩:∃P,P=pv (u1.drop i) (m+3):=⟨_,rfl⟩
  have hPi:=fw i
  have hud:Words (u1.drop i):=hu1.drop i
  have hPb:=bz hud (m+3)
  have htot:pv u1 (K+m+3)=pv u1 i+P*4294967296^i:=by
   have k0:K+m+3=i+((m+3)+(K-i)):=om
   rw[k0,nD]
   congr 2
   rw[hPd]
   refine rm hud om ?_
   rw[k0,nD,pow_succ] at hrem
   have k1:=(bz hu1 i).1
   have k2:pv (u1.drop i) (m+3+(K-i))*4294967296^i<(V*4294967296)*4294967296^i:=by
    rw[mul_assoc,mul_comm 4294967296];omega
   have k3:=Int.lt_of_mul_lt_mul_right k2 (le_of_lt hPi)
   have k4:(4294967296:Int)^(m+3)=4294967296^(m+2)*4294967296:=pow_succ ..
   omega
  have hPV:P<V*4294967296:=by
   have k1:=(bz hu1 i).1
   rw[htot,pow_succ] at hrem
   have k2:P*4294967296^i<(V*4294967296)*4294967296^i:=by
    rw[mul_assoc,mul_comm 4294967296];omega
   exact Int.lt_of_mul_lt_mul_right k2 (le_of_lt hPi)
  have hP0:0<=P:=by rw[hPd];exact hPb.1
  have hPexp:P=((u1.getD (i+(m+2)) 0*4294967296+u1.getD (i+(m+1)) 0)*4294967296+u1.getD (i+m) 0)*4294967296^m+pv (u1.drop i) m:=by
   rw[hPd,pv,pv,pv,gE,gE,gE,ew,ew1]
   generalize (4294967296:Int)^m=B
   generalize pv (u1.drop i) m=z
   grind
  have hhd:u1.getD (i+(m+2)) 0<=v.getD (m+1) 0:=by
   rcases lt_or_le (v.getD (m+1) 0) (u1.getD (i+(m+2)) 0) with hh | hh
   ·exfalso
    have k1:(v.getD (m+1) 0+1)*(4294967296^m*4294967296*4294967296)<=u1.getD (i+(m+2)) 0*(4294967296^m*4294967296*4294967296):=mul_le_mul_of_nonneg_right om om
    have k2:P=u1.getD (i+(m+2)) 0*(4294967296^m*4294967296*4294967296)+pv (u1.drop i) (m+2):=by rw[hPd,pv,gE,ew];omega
    have k3:=(bz hud (m+2)).1
    have k4:(V:Int)=v.getD (m+1) 0*(4294967296^m*4294967296)+pv v (m+1):=by rw[hVp,pv,ew1];omega
    have k5:=(bz hwv (m+1)).2
    rw[ew1] at k5
    have k6:(V:Int)*4294967296<(v.getD (m+1) 0+1)*(4294967296^m*4294967296*4294967296):=by
     rw[add_mul,<-mul_assoc (v.getD (m+1) 0),k4];omega
    omega
   ·exact hh
  refine⟨zRg,⟨om,om⟩,zRg,zRg,⟨om,om⟩,om,om,λg=>0<=g/\g<4294967296/\P<(g+1)*V/\(g-1)*V<=P,
   A3 (next3:=λg=>0<=g/\g<4294967296/\P<(g+1)*V/\(g-1)*V<=P) (G1:=rng ((i+(m+2):Nat):Int)) (G2:=rng ((i+m:Nat):Int)) (G3:=(0:Int)<=((i+m:Nat):Int)/\((i+m:Nat):Int)<(u1.length:Int)) zRg zRg ⟨om,om⟩ htopge hvm1.2 hvm ⟨h1.1,hhd⟩ h2 h3 hVexp hvlo hPexp (bz hud m) hPm hPV (λg a1 a2 a3 a4=>⟨a1,a2,a3,a4⟩),?_⟩
  rintro g ⟨hg0,hg1,hgU,hgL⟩
  have hPW:(4294967296:Int)^(m+3)=4294967296^(m+2)*4294967296:=pow_succ ..
  refine⟨λy=>Words y.2/\y.2.length=K+m+3/\(∀k,k<i\/i+(m+3)<=k->y.2.getD k 0=u1.getD k 0)/\0<=y.1/\y.1<4294967296/\pv (y.2.drop i) (m+3)=P-y.1*V/\P-y.1*V<V,?_,?_⟩
  ·refine⟨zRg,zRg,⟨om,om,om⟩,?_⟩
   refine vH hu1 hwv (by unfold SM;omega) om om hg0 hg1 (λw b hw hwl hwz hb hwp=>⟨hwl,?_⟩)
   rw[hvv,<-hPd] at hwp
   have hwd:=bz (hw.drop i) (m+3)
   have hgs:(g-1)*(V:Int)=g*V-V:=by rw[sub_mul];omega
   have hga:(g+1)*(V:Int)=g*V+V:=by rw[add_mul];omega
   rcases hb with rfl | rfl
   ·refine⟨λhh=>(by cases hh),λ_=>⟨hw,by show w.length=_;omega,hwz,hg0,hg1,?_,?_⟩⟩
    ·show pv (w.drop i) (m+3)=P-g*V
     omega
    ·show P-g*V<V
     omega
   ·refine⟨λ_=>⟨zRg,zRg,⟨om,om,om⟩,?_⟩,λhh=>by cases hh⟩
    refine vI hw hwv (by unfold SM;omega) om om (λw' c hw' hwl' hwz' hc' hwp'=>⟨hwl',?_⟩)
    rw[hvv] at hwp'
    have hwd':=bz (hw'.drop i) (m+3)
    have hg1':1<=g:=by
     rcases lt_or_le g 1 with hh | hh
     ·have:g=0:=om
      subst this
      omega
     ·exact hh
    rw[wrap_u64_id (m:=g-1) om om]
    refine⟨hw',by show w'.length=_;omega,λk hk=>?_,by show 0<=g-1;omega,by show g-1<_;omega,?_,?_⟩
    ·show w'.getD k 0=_
     rw[hwz' k hk,hwz k hk]
    ·show pv (w'.drop i) (m+3)=P-(g-1)*V
     rcases hc' with rfl | rfl<;>omega
    ·show P-(g-1)*V<V
     omega
  ·rintro⟨g',u2⟩ ⟨hu2,hul2,hz2,hg0',hg1',hp2,hr2⟩
   simp only at hu2 hul2 hz2 hg0' hg1' hp2 hr2
   refine⟨⟨om,om⟩,zRg,⟨i,rfl,om,hul2,hu2,by simp[bu,hql],?_,λk hk=>?_,?_,?_⟩,by first | omega | (dsimp only;omega)⟩
   ·rw[wrap_u32,f_];exact hq.set _ om om
   ·show(bu q (i:Int) _).getD k 0=0
    rw[f_,cG om];exact hqz k om
   ·show(val u:Int)=pv (bu q (i:Int) (IntKind.u32.wrap g')) (K+1)*V+pv u2 (K+m+3)
    have k0:=yg hz2 (K+m+3) om
    have hgm:g' % 4294967296=g':=om
    rw[f_,wrap_u32,hgm,gX om (K+1) om,hqz i om,sub_zero,hsum,add_mul]
    rw[hp2,<-hPd] at k0
    have k1:(P-g'*V-P)*4294967296^i = - (g'*4294967296^i*V):=by
     have:P-g'*V-P = - (g'*V):=om
     rw[this,Int.neg_mul,mul_right_comm]
    omega
   ·show pv u2 (K+m+3)<V*4294967296^i
    have k0:=yg hz2 (K+m+3) om
    rw[hp2,<-hPd,htot] at k0
    have k1:=(bz hu1 i).2
    have k2:(P-g'*V+1)*4294967296^i<=V*4294967296^i:=mul_le_mul_of_nonneg_right om om
    have k3:(P-g'*V-P)*4294967296^i=(P-g'*V)*4294967296^i-P*4294967296^i:=by rw[sub_mul]
    rw[add_mul] at k2
    omega
 ·obtain rfl:j=0:=om
  rw[Int.pow_zero,Int.mul_one] at hrem
  have hq1:=cB hq
  have hu1v:=cB hu1
  rw[hql] at hq1
  rw[hul1] at hu1v
  rw[<-hq1,<-hu1v] at hsum
  rw[<-hu1v] at hrem
  have hsumN:val u=val q*V+val u1:=by
   have:((val u:Nat):Int)=((val q*V+val u1:Nat):Int):=by rw[natCast_add,natCast_mul];exact hsum
   omega
  have hVB:V=B*2^s:=hr4v
  have hps':0<2^s:=pow_pos om
  have hV0':0<V:=om
  have hdiv:A / B=val q:=by
   have k1:A*2^s / (B*2^s)=A / B:=Nat.mul_div_mul_right _ _ hps'
   rw[<-k1,<-huv,<-hVB,hsumN,Nat.add_comm,Nat.add_mul_div_right _ _ hV0',Nat.div_eq_of_lt om];omega
  have hmod:A % B=val u1 / 2^s:=by
   have k1:A*2^s % (B*2^s)=A % B*2^s:=Nat.mul_mod_mul_right _ _ _
   rw[<-huv,<-hVB,hsumN,Nat.add_comm,Nat.add_mul_mod_self_right,mod_eq_of_lt om] at k1
   rw[k1,Nat.mul_div_cancel _ hps']
  refine cu hq (by unfold SM;omega) (ub hu1 (by unfold SM;omega) om (λr hr hrl hrv=>cu hr (by unfold SM;omega) ?_))
  rw[hrv,<-hmod,<-hdiv]
  exact h
theorem ql {a b:List Int} {Q:List Int->Prop} (ha:Words a) (hb:Words b) (la:a.length<=1099511627774) (lb:b.length<=1099511627774) (h:Q (lim (gcd (val a) (val b)))):ko a b Q:=by
 refine cu ha (by unfold SM;omega) (cu hb (by unfold SM;omega) ?_)
 have b1:=dM ha
 have b2:=dM hb
 refine⟨λy=>∃m n:Nat,y=(lim m,lim n)/\(lim m).length<=1099511627774/\(lim n).length<=1099511627774/\gcd m n=gcd (val a) (val b),λy=>val y.2,⟨_,_,rfl,om,om,rfl⟩,?_⟩
 rintro _ ⟨m,n,rfl,hm,hn,hg⟩
 refine condT (λhc=>?_) (λhc=>?_)
 ·have hn0:n≠0:=by rintro rfl;rw[dr] at hc;simp at hc
  refine nj (aI m) (aI n) hm hn (λh0=>absurd (by rw[ba] at h0;exact h0) hn0) (λ_=>?_)
  rw[ba,ba]
  have hlt:=mod_lt m (Nat.pos_of_ne_zero hn0)
  refine⟨⟨n,m % n,rfl,hn,le_trans (cX (Nat.le_of_lt hlt)) hn,?_⟩,?_⟩
  ·rw[<-hg,gcd_comm n,<-Nat.gcd_rec,gcd_comm]
  ·show val (lim (m % n))<val (lim n)
   rw[ba,ba];exact hlt
 ·have hn0:n=0:=by
   rcases Nat.eq_zero_or_pos n with h0 | h0
   ·exact h0
   ·rw[gg h0] at hc;simp at hc
  subst hn0
  rw[Nat.gcd_zero_right] at hg
  rw[<-hg] at h
  exact h
theorem rl {l:List Int} {n:Nat} {x:Int} (h:l.length=n):pv (l++[x]) (n+1)=pv l n+x*4294967296^n:=by
 rw[pv,Cu om,qo om]
 have:n-l.length=0:=om
 rw[this];rfl
theorem Words.one {x:Int} (h0:0<=x) (h1:x<4294967296):Words [x]:=Words.nil.cons h0 h1
theorem ww {l:List Int} {x:Int} (h:l.length<=1099511627776):(l++[x]).length*4<=140737488355328:=by simp;omega
theorem cJ {a:List Int} {i:Nat} {Q:Int->Prop} (hw:Words a) (h:Q (a.getD i 0)):cr a (i:Int) Q:=by
 refine condT (λhc=>⟨⟨om,hc⟩,?_⟩) (λhc=>?_)
 ·rw[gH]
  have:=hw i
  rw[wrap_u64_id om om]
  exact h
 ·rw[pP om] at h
  exact h
theorem dV {a:List Int} {Q:List Int->Prop} (hw:Words a) (hl:SM a) (h:Q (lim (val a))):c7 a Q:=by
 refine⟨λn=>∃j:Nat,n=j/\j<=a.length/\(∀i,j<=i->i<a.length->a.getD i 0=0)/\(0<j->a.getD (j-1) 0≠0),?_,?_⟩
 ·refine⟨λn=>∃j:Nat,n=j/\j<=a.length/\(∀i,j<=i->i<a.length->a.getD i 0=0),λn=>n.toNat,⟨a.length,rfl,Nat.le_refl _,λi h1 h2=>om⟩,?_⟩
  rintro n ⟨j,rfl,hj,hz⟩
  refine condT (λhc=>⟨zRg,⟨om,om⟩,bV (λhe=>⟨zRg,⟨j-1,om,om,λi h1 h2=>?_⟩,by dsimp only;omega⟩) (λhe=>⟨j,rfl,hj,hz,λ_=>?_⟩)⟩) (λhc=>⟨j,rfl,hj,hz,λh0=>om⟩)
  ·by_cases hi:i=j-1
   ·subst hi
    rw[tf] at he
    have:((j:Int)-1).toNat=j-1:=om
    rwa[this] at he
   ·exact hz i om h2
  ·rw[tf] at he
   have:((j:Int)-1).toNat=j-1:=om
   rwa[this] at he
 ·rintro n ⟨j,rfl,hj,hz,hlast⟩
  have e:=rJ hw hj hz hlast
  refine⟨⟨om,om,om⟩,?_,?_⟩
  ·simp[cg]
   have:min j a.length<=a.length:=om
   omega
  ·rw[<-e] at h
   simpa[cg] using h
theorem pb {a b:List Int} {Q:Int->Prop} (ha:Words a) (hb:Words b) (la:SM a) (lb:SM b) (h:Q (ou (val a) (val b))):jc a b Q:=by
 unfold SM at la lb
 obtain⟨N,hN⟩:∃N,N=max a.length b.length:=⟨_,rfl⟩
 have hNi:max (a.length:Int) (b.length:Int)=(N:Int):=om
 have v1:=eK ha (i:=N) om
 have v2:=eK hb (i:=N) om
 unfold jc
 rw[hNi]
 refine⟨zRg,iP ⟨λi=>∃j:Nat,i=(j:Int)-1/\j<=N/\(∀k,j<=k->k<N->a.getD k 0=b.getD k 0),λi=>(i+1).toNat,⟨N,rfl,Nat.le_refl _,λk h1 h2=>om⟩,?_⟩⟩
 rintro _ ⟨j,rfl,hj,he⟩
 refine condT (λhc=>?_) (λhc=>?_)
 ·obtain⟨i,rfl⟩:∃i,j=i+1:=⟨j-1,om⟩
  have ei:((i+1:Nat):Int)-1=(i:Int):=om
  rw[ei]
  refine cJ ha (cJ hb (condT (λh1=>?_) (λh1=>cJ ha (cJ hb (condT (λh2=>?_) (λh2=>⟨zRg,⟨i,rfl,om,λk h3 h4=>?_⟩,by dsimp only;omega⟩))))))
  ·have:=BB ha hb (i:=i) (n:=N) om h1 (λk h1 h2=>he k om h2)
   rw[ou,if_pos om] at h;exact h
  ·have:=BB hb ha (i:=i) (n:=N) om h2 (λk h1 h2=>(he k om h2).symm)
   rw[ou,if_neg om,if_neg om] at h;exact h
  ·by_cases hk:k=i
   ·subst hk;omega
   ·exact he k om h4
 ·have:=kF (l:=a) (m:=b) N (λk hk=>he k om hk)
  rw[ou,if_neg om,if_pos om] at h;exact h
theorem zu {a b:List Int} {Q:List Int->Prop} (ha:Words a) (hb:Words b) (lb:a.length<=1099511627775/\b.length<=1099511627775) (h:Q (lim (val a+val b))):mK a b Q:=by
 obtain⟨n,hn0⟩:∃n,n=max a.length b.length+1:=⟨_,rfl⟩
 have hn:max (a.length:Int) (b.length:Int)+1=(n:Int):=om
 unfold mK
 rw[hn]
 refine⟨zRg,?_⟩
 refine⟨λy=>∃i:Nat,y.2.1=i/\i<=n/\y.2.2.length=i/\Words y.2.2/\0<=y.1/\y.1<=1/\pv y.2.2 i+y.1*4294967296^i=pv a i+pv b i,λy=>n-y.2.1.toNat,⟨0,rfl,om,rfl,Words.nil,by show(0:Int)<=0;omega,by show(0:Int)<=1;omega,by simp[pv]⟩,?_⟩
 rintro⟨c,x,out⟩ ⟨i,hx,hi,hlen,hw,hc0,hc1,hpv⟩
 simp only at hx hi hlen hw hc0 hc1 hpv
 subst hx
 have hxl:=ha i
 have hxm:=hb i
 refine condT (λhlt=>?_) (λhge=>?_)
 ·refine cJ ha (cJ hb (iP ⟨ww om,zRg,?_,by dsimp only;omega⟩))
  rw[wrap_u64_id (m:=a.getD i 0+b.getD i 0) om om,wrap_u64_id om om,wrap_u32]
  have e32:∀z:Int,z / 2^toNat 32=z / 4294967296:=λ_=>rfl
  rw[e32]
  generalize hd:a.getD i 0+b.getD i 0+c=d
  refine⟨i+1,rfl,om,by simp[hlen],hw.append (Words.one om om),by show 0<=d / 4294967296;omega,by show d / 4294967296<=1;omega,?_⟩
  show pv (out++[d % 4294967296]) (i+1)+d / 4294967296*_=_
  rw[rl hlen,pow_succ,pv,pv,add_assoc,mC,<-hd,add_mul,add_mul]
  omega
 ·obtain rfl:i=n:=om
  refine dV hw (by unfold SM;omega) ?_
  have e:val out=val a+val b:=by
   have a1:=eK hw (i:=i) om
   have a2:=eK ha (i:=i) om
   have a3:=eK hb (i:=i) om
   have b2:=oD (l:=a) (i-1) om
   have b3:=oD (l:=b) (i-1) om
   have b4:=oD (l:=a) i om
   have b5:=oD (l:=b) i om
   have c2:=(bz ha (i-1)).2
   have c3:=(bz hb (i-1)).2
   have c4:=(bz hw i).1
   have hi1:i=i-1+1:=om
   have hc:=hpv
   rw[hi1,pow_succ,<-hi1] at hc
   have:=wl hc om om om hc0 hc1 (fw _)
   subst this
   omega
  rw[e]
  exact h
theorem mH {a b:List Int} {Q:List Int->Int->Prop} (ha:Words a) (hb:Words b) (la:SM a) (lb:SM b) (h1:val a<val b->Q [] 3) (h2:val b<=val a->Q (lim (val a-val b)) 0):kD a b Q:=by
 refine pb ha hb la lb (condT (λhc=>h1 (lH.1 hc)) (λhc=>?_))
 have hge:val b<=val a:=by have:=mt lH.2 hc;omega
 have h:=h2 hge
 clear h1 h2
 unfold SM at la lb
 refine⟨λy=>∃i:Nat,y.2.1=i/\i<=a.length/\y.2.2.length=i/\Words y.2.2/\0<=y.1/\y.1<=1/\pv y.2.2 i=pv a i-pv b i+y.1*4294967296^i,λy=>a.length-y.2.1.toNat,⟨0,rfl,om,rfl,Words.nil,by show(0:Int)<=0;omega,by show(0:Int)<=1;omega,by simp[pv]⟩,?_⟩
 rintro⟨c,x,out⟩ ⟨i,hx,hi,hlen,hw,hb0,hb1,hpv⟩
 simp only at hx hi hlen hw hb0 hb1 hpv
 subst hx
 have hxl:=ha i
 have hxm:=hb i
 obtain⟨q1,q2,q3⟩:=uK (a.getD i 0) (b.getD i 0) c hxl hxm ⟨hb0,hb1⟩
 refine condT (λhlt=>cJ ha (cJ hb (iP ⟨ww om,zRg,?_,by dsimp only;omega⟩))) (λhge=>?_)
 ·simp only[wrap_u32]
  generalize IntKind.u64.wrap (IntKind.u64.wrap (a.getD i 0-b.getD i 0)-c)=d at *
  have e63:d / 2^toNat 63=d / 9223372036854775808:=rfl
  refine⟨i+1,rfl,om,by simp[hlen],hw.append (Words.one om om),by simpa only[e63] using q2,by simpa only[e63] using q3,?_⟩
  simp only[e63]
  rw[rl hlen,pow_succ,pv,pv,hpv]
  have e:d % 4294967296=a.getD i 0-b.getD i 0-c+4294967296*(d / 9223372036854775808):=om
  rw[e]
  generalize d / 9223372036854775808=d'
  have a1:=add_mul (a.getD i 0-b.getD i 0-c) (4294967296*d') (4294967296^i)
  have a2:=sub_mul (a.getD i 0-b.getD i 0) c (4294967296^i)
  have a3:=sub_mul (a.getD i 0) (b.getD i 0) (4294967296^i)
  have a4:4294967296*d'*4294967296^i=d'*(4294967296^i*4294967296):=by rw[mul_comm 4294967296 d',mul_assoc,mul_comm 4294967296]
  omega
 ·obtain rfl:i=a.length:=om
  refine dV hw (by unfold SM;omega) ?_
  have e:val out=val a-val b:=by
   have a1:=eK hw (i:=a.length) om
   have a2:=cB ha
   have a3:=bz ha a.length
   have a4:=bz hw a.length
   have a5:=bz hb a.length
   have a6:=cB hb
   rcases lt_or_ge a.length b.length with h | h
   ·have hm1:=pK hb (Nat.le_of_lt h)
    rcases (by omega:c=0\/c=1) with rfl | rfl
    ·have hz:pv b b.length=pv b a.length:=by
      refine rm hb (Nat.le_of_lt h) ?_
      omega
     omega
    ·omega
   ·have hm1:=eK hb h
    rcases (by omega:c=0\/c=1) with rfl | rfl<;>omega
  rw[e]
  exact h
theorem Eb {X C A1 B1 P1 P2:Int} (f1:0<=X) (f2:1*(P1*P2)<=C*(P1*P2)) (h:X+C*(P1*P2)=A1*B1) (a0:0<=A1) (a1:A1<P1) (_b0:0<=B1) (b1:B1<P2) (_p1:0<P1) (p2:0<P2):False:=by
 have h1:A1*B1<=A1*P2:=mul_le_mul_of_nonneg_left om a0
 have h2:A1*P2<P1*P2:=Int.mul_lt_mul_of_pos_right a1 p2
 omega
set_option maxHeartbeats 1000000 in
theorem mI {a b:List Int} {Q:List Int->Prop} (ha:Words a) (hb:Words b) (la:a.length+b.length<=1099511627775) (h:Q (lim (val a*val b))):gV a b Q:=by
 obtain⟨N,hN⟩:∃N,N=a.length+b.length+1:=⟨_,rfl⟩
 have hNi:(a.length:Int)+(b.length:Int)+1=(N:Int):=om
 have hL:(b.length:Int)+1=((b.length+1:Nat):Int):=om
 unfold gV
 rw[hNi,hL]
 refine⟨zRg,zRg,rF om om,?_⟩
 refine⟨λy=>∃i:Nat,y.1=i/\i<=a.length/\y.2.length=N/\Words y.2/\pv y.2 (i+b.length)=pv a i*pv b b.length/\(∀p,i+b.length<=p->y.2.getD p 0=0),λy=>a.length-y.1.toNat,
  ⟨0,rfl,om,by simp[bT],Words.rep _,by rw[ut,qB];simp[pv],λp hp=>by rw[ut,List.getD_eq_getElem?_getD,List.getElem?_replicate];split<;>rfl⟩,?_⟩
 rintro⟨x,out⟩ ⟨i,hx,hi,hlen,hw,hpv,hz⟩
 simp only at hx hi hlen hw hz hpv
 subst hx
 have hxi:=ha i
 refine condT (λhlt=>⟨⟨om,hlt⟩,zRg,?_⟩) (λhge=>?_)
 ·have hbl:pv b (b.length+1)=pv b b.length:=oD _ om
  refine⟨λy=>∃k:Nat,y.2.1=k/\k<=b.length+1/\y.2.2.length=N/\Words y.2.2/\(∀p,i+(b.length+1)<=p->y.2.2.getD p 0=0)/\0<=y.1/\y.1<4294967296/\(k=b.length+1->y.1=0)/\
    pv y.2.2 N+y.1*4294967296^(i+k)=pv a i*pv b b.length+a.getD i 0*4294967296^i*pv b k,λy=>b.length+1-y.2.1.toNat,
   ⟨0,rfl,om,hlen,hw,λp hp=>hz p om,by show(0:Int)<=0;omega,by show(0:Int)<_;omega,om,?_⟩,?_⟩
  ·show pv out N+0*_=_
   rw[oc (j:=i+b.length) N om (λk h1 h2=>hz k h1),hpv];simp[pv]
  clear hpv hz hw hlen h
  rintro⟨c,x1,out2⟩ ⟨k,hx,hk,hlen,hw,hz,hc0,hc1,hck,hpv⟩
  simp only at hx hk hlen hw hz hc0 hc1 hck hpv
  subst hx
  have hy:=hb k
  have ho:=hw (i+k)
  obtain⟨q1,q2⟩:=zO hxi hy
  have eik:(i:Int)+(k:Int)=((i+k:Nat):Int):=om
  refine condT (λhlt2=>⟨b.getD k 0,cJ hb rfl,zRg,⟨om,om⟩,zRg,⟨om,om⟩,iP ⟨zRg,?_,by dsimp only;omega⟩⟩) (λhge2=>⟨zRg,?_,by dsimp only;omega⟩)
  ·simp only[eik,gH,f_]
   simp (disch:=omega) only[wrap_u64_id,wrap_u32]
   have e32:∀z:Int,z / 2^toNat 32=z / 4294967296:=λ_=>rfl
   simp only[e32]
   generalize hv:a.getD i 0*b.getD k 0+out2.getD (i+k) 0+c=v
   have hnew:pv (out2.set (i+k) (v % 4294967296)) N+v / 4294967296*4294967296^(i+(k+1))=pv a i*pv b b.length+a.getD i 0*4294967296^i*pv b (k+1):=by
    rw[gX om N om,pv,<-Nat.add_assoc,pow_succ,mul_add,<-add_assoc,<-hpv]
    have s1:=mC v (4294967296^(i+k))
    have s2:=sub_mul (v % 4294967296) (out2.getD (i+k) 0) (4294967296^(i+k))
    have s3:v*4294967296^(i+k)=a.getD i 0*4294967296^i*(b.getD k 0*4294967296^k)+out2.getD (i+k) 0*4294967296^(i+k)+c*4294967296^(i+k):=by
     rw[<-hv,add_mul,add_mul,pow_add]
     congr 2
     rw[mul_assoc,mul_assoc,mul_left_comm (b.getD k 0)]
    omega
   refine⟨k+1,rfl,om,by simp[hlen],hw.set _ om om,λp hp=>?_,by show 0<=v / 4294967296;omega,by show v / 4294967296<4294967296;omega,λhkb=>?_,hnew⟩
   ·show(out2.set (i+k) _).getD p 0=0
    rw[cG om];exact hz p hp
   ·show v / 4294967296=0
    have:k=b.length:=om
    have hy0:b.getD k 0=0:=pP om
    have ho0:out2.getD (i+k) 0=0\/True:=.inr trivial
    rw[hy0,Int.mul_zero] at hv
    rcases lt_or_le v 4294967296 with h1 | h1
    ·omega
    ·exfalso
     have f1:=(bz (hw.set (i+k) (x:=v % 4294967296) om om) N).1
     have f2:1*(4294967296:Int)^(i+(k+1))<=v / 4294967296*4294967296^(i+(k+1)):=mul_le_mul_of_nonneg_right om (by have:=fw (i+(k+1));omega)
     have f3:=(bz ha (i+1)).2
     have f4:=bz hb b.length
     have f5:pv a i*pv b b.length+a.getD i 0*4294967296^i*pv b (k+1)=pv a (i+1)*pv b b.length:=by
      have:pv b (k+1)=pv b b.length:=oD _ om
      rw[this,pv,add_mul]
     have f7:(4294967296:Int)^(i+(k+1))=4294967296^(i+1)*4294967296^b.length:=by rw[<-pow_add];congr 1;omega
     have f9:=fw (i+1)
     have f10:=fw b.length
     rw[f5,f7] at hnew
     rw[f7] at f2
     have f0:=(bz ha (i+1)).1
     generalize (4294967296:Int)^(i+1)=P1 at *
     generalize (4294967296:Int)^b.length=P2 at *
     generalize pv a (i+1)=A1 at *
     generalize pv b b.length=B1 at *
     exact Eb f1 f2 hnew f0 f3 f4.1 f4.2 f9 f10
  ·obtain rfl:k=b.length+1:=om
   have:=hck rfl
   subst this
   refine⟨i+1,rfl,om,hlen,hw,?_,λp hp=>hz p om⟩
   show pv out2 (i+1+b.length)=pv a (i+1)*pv b b.length
   rw[<-oc (j:=i+1+b.length) N om (λk h1 h2=>hz k om),pv,add_mul]
   rw[hbl] at hpv
   omega
 ·obtain rfl:i=a.length:=om
  refine dV hw (by unfold SM;omega) ?_
  have e:val out=val a*val b:=by
   have a1:=eK hw (i:=N) om
   rw[oc (j:=a.length+b.length) N om (λk h1 h2=>hz k h1),hpv] at a1
   have a2:=cB ha
   have a3:=cB hb
   have:((val a*val b:Nat):Int)=(val a:Int)*(val b:Int):=by simp
   have:(val out:Int)=((val a*val b:Nat):Int):=by rw[this,a1,a2,a3]
   omega
  rw[e]
  exact h
theorem uW {a:List Int} {n:Nat} {Q:List Int->Prop} (ha:Words a) (la:a.length<=1099511627775) (hn:n<=32) (h:Q (lim (val a*2^n))):n_ a (n:Int) Q:=by
 have hpp:=fO n
 have hs:=pF hn
 have hqp:=fO (32-n)
 have hple:(2:Int)^n<=4294967296:=by
  have:(2:Int)^n*1<=2^n*2^(32-n):=mul_le_mul_of_nonneg_left om om
  omega
 refine⟨λy=>∃i:Nat,y.2.1=i/\i<=a.length/\y.2.2.length=i/\Words y.2.2/\0<=y.1/\y.1<2^n/\pv y.2.2 i+y.1*4294967296^i=pv a i*2^n,λy=>a.length-y.2.1.toNat,⟨0,rfl,om,rfl,Words.nil,by show(0:Int)<=0;omega,hpp,by simp[pv]⟩,?_⟩
 rintro⟨c,x,out⟩ ⟨i,hx,hi,hlen,hw,hc0,hc1,hpv⟩
 simp only at hx hi hlen hw hc0 hc1 hpv
 subst hx
 have hxi:=ha i
 refine condT (λhlt=>⟨⟨om,hlt⟩,⟨om,om⟩,?_⟩) (λhge=>?_)
 ·rw[gH,toNat_natCast]
  have hy0:0<=a.getD i 0*2^n:=mul_nonneg hxi.1 om
  have hy1:a.getD i 0*2^n<=4294967295*2^n:=mul_le_mul_of_nonneg_right om om
  have hmod:a.getD i 0*2^n % 2^n=0:=Int.mul_emod_left _ _
  have hor:bits .or .u64 c (a.getD i 0*2^n)=a.getD i 0*2^n+c:=yh n hc0 hc1 hy0 hmod om
  rw[wrap_u64_id hxi.1 om,wrap_u64_id hy0 om,hor]
  refine iP ⟨ww om,zRg,?_,by dsimp only;omega⟩
  have e32:∀z:Int,z / 2^toNat 32=z / 4294967296:=λ_=>rfl
  rw[e32,wrap_u32]
  generalize hd:a.getD i 0*2^n+c=d
  refine⟨i+1,rfl,om,by simp[hlen],hw.append (Words.one om om),by show 0<=d / 4294967296;omega,?_,?_⟩
  ·show d / 4294967296<2^n
   rw[Int.ediv_lt_iff_lt_mul om];omega
  ·show pv (out++[d % 4294967296]) (i+1)+d / 4294967296*_=_
   rw[rl hlen,pow_succ,add_assoc,mC,<-hd,pv,add_mul,add_mul,<-hpv,mul_right_comm]
   omega
 ·obtain rfl:i=a.length:=om
  rw[wrap_u32]
  have hcm:c % 4294967296=c:=om
  rw[hcm]
  refine⟨ww om,dV (hw.append (Words.one hc0 om)) (by simp[SM];omega) ?_⟩
  have e:val (out++[c])=val a*2^n:=by
   have a1:=eK (hw.append (Words.one hc0 (by omega:c<4294967296))) (i:=a.length+1) (by simp;omega)
   rw[rl hlen,hpv,<-cB ha] at a1
   have:((val a*2^n:Nat):Int)=(val a:Int)*2^n:=by simp
   omega
  rw[e];exact h
theorem ye {a:List Int} {n:Nat} {Q:List Int->Prop} (ha:Words a) (la:SM a) (hn:n<=32) (h:Q (lim (val a / 2^n))):ly a (n:Int) Q:=by
 unfold SM at la
 have hs:=pF hn
 have hpp:=fO n
 have hqp:=fO (32-n)
 unfold ly
 generalize hp:(2:Int)^n=p at *
 generalize (2:Int)^(32-n)=q at *
 refine⟨λy=>∃i:Nat,y.1=i/\i<=a.length/\y.2.length=i/\Words y.2/\pv y.2 i*p=pv a i-a.getD 0 0 % p+(a.getD i 0 % p)*4294967296^i,λy=>a.length-y.1.toNat,
  ⟨0,rfl,om,rfl,Words.nil,by simp[pv];omega⟩,?_⟩
 rintro⟨x,out⟩ ⟨i,hx,hi,hlen,hw,hpv⟩
 simp only at hx hi hlen hw hpv
 subst hx
 have h0:=ha i
 have h1:=ha (i+1)
 have e1:(i:Int)+1=((i+1:Nat):Int):=om
 refine condT (λhlt=>cJ ha ⟨zRg,?_⟩) (λhge=>?_)
 ·rw[e1]
  refine cJ ha ⟨⟨om,om⟩,ww om,zRg,?_,by dsimp only;omega⟩
  have e32:(2:Int)^toNat 32=4294967296:=rfl
  rw[e32,toNat_natCast,hp,wrap_u64_id om om,yh 32 h0.1 h0.2 om (by show _ % 4294967296=0;omega) om,wrap_u32]
  generalize ha0:a.getD i 0=x0 at *
  generalize ha1:a.getD (i+1) 0=x1 at *
  have hx0:0<=x0 / p:=ediv_nonneg h0.1 om
  have hx0':x0 / p<q:=by rw[Int.ediv_lt_iff_lt_mul hpp,mul_comm,hs];exact h0.2
  have hm0:0<=x1 % p:=emod_nonneg _ om
  have hm1:x1 % p<p:=emod_lt_of_pos _ hpp
  have hdv:(x1*4294967296+x0) / p=x1*q+x0 / p:=by
   rw[<-hs,mul_left_comm,add_comm,Int.add_mul_ediv_left _ _ om,add_comm]
  have hk:(x1*4294967296+x0) / p % 4294967296=(x1 % p)*q+x0 / p:=by
   have d1:x1=p*(x1 / p)+x1 % p:=(mul_ediv_add_emod x1 p).symm
   have d2:x1*q+x0 / p=(x1 % p)*q+x0 / p+4294967296*(x1 / p):=by
    have:x1*q=(p*(x1 / p)+x1 % p)*q:=by rw[<-d1]
    rw[this,add_mul,mul_right_comm,hs];omega
   rw[hdv,d2,Int.add_mul_emod_self_left]
   refine Int.emod_eq_of_lt ?_ ?_
   ·have:=mul_nonneg hm0 (le_of_lt hqp);omega
   ·have:(x1 % p)*q<=(p-1)*q:=mul_le_mul_of_nonneg_right om om
    rw[sub_mul,hs] at this;omega
  rw[hk]
  have hq0:=mul_nonneg hm0 (le_of_lt hqp)
  have hq1:(x1 % p)*q<=(p-1)*q:=mul_le_mul_of_nonneg_right om om
  rw[sub_mul,hs] at hq1
  refine⟨i+1,rfl,om,by simp[hlen],hw.append (Words.one om om),?_⟩
  show pv (out++[x1 % p*q+x0 / p]) (i+1)*p=pv a (i+1)-_+_
  rw[rl hlen,pv,add_mul,hpv,ha0,ha1,pow_succ]
  have d0:x0=p*(x0 / p)+x0 % p:=(mul_ediv_add_emod x0 p).symm
  have s1:(x1 % p*q+x0 / p)*4294967296^i*p=x1 % p*(4294967296^i*4294967296)+(p*(x0 / p))*4294967296^i:=by
   rw[add_mul,add_mul]
   congr 1
   ·rw[<-hs,mul_assoc,mul_assoc,mul_left_comm q,mul_comm q p]
   ·rw[mul_right_comm,mul_comm (x0 / p)]
  have s2:x0*4294967296^i=(p*(x0 / p))*4294967296^i+x0 % p*4294967296^i:=by
   rw[<-add_mul,<-d0]
  omega
 ·obtain rfl:i=a.length:=om
  refine dV hw (by unfold SM;omega) ?_
  have a1:=cB hw
  have a2:=cB ha
  rw[hlen] at a1
  rw[pP (Nat.le_refl a.length),Int.zero_emod,Int.zero_mul,<-a2,<-a1] at hpv
  have hr0:0<=a.getD 0 0 % p:=emod_nonneg _ om
  have hr1:a.getD 0 0 % p<p:=emod_lt_of_pos _ hpp
  have e:(val a:Int) / p=val out:=by
   have:(val a:Int)=p*val out+a.getD 0 0 % p:=by rw[mul_comm];omega
   rw[this,add_comm,Int.add_mul_ediv_left _ _ om,Int.ediv_eq_zero_of_lt hr0 hr1];omega
  have e2:((val a / 2^n:Nat):Int)=(val a:Int) / p:=by rw[<-hp];simp
  have:val out=val a / 2^n:=om
  rw[this];exact h
theorem Gf {y:Int} (h0:0<=y) (h1:y<4294967296):bits .and .u32 y 1=y % 2:=by
 obtain⟨m,rfl⟩:=eq_ofNat_of_zero_le h0
 show IntKind.u32.wrap (((BitVec.ofInt 32 (m:Int)) &&& (BitVec.ofInt 32 1)).toNat:Int)=_
 rw[wrap_u32,BitVec.toNat_and,BitVec.toNat_ofInt,BitVec.toNat_ofInt]
 have e1:((m:Int) % ((2^32:Nat):Int)).toNat=m:=om
 have e2:((1:Int) % ((2^32:Nat):Int)).toNat=1:=om
 rw[e1,e2,Nat.and_one_is_mod]
 omega
theorem yJ (m i:Nat):m &&& 2^i=if m.testBit i then 2^i else 0:=by
 refine Nat.eq_of_testBit_eq (λj=>?_)
 rw[Nat.testBit_and,Nat.testBit_two_pow]
 by_cases h:i=j
 ·subst h
  cases hb:m.testBit i<;>simp
 ·split<;>simp[h]
theorem Ge {y:Int} (h0:0<=y) (h1:y<4294967296):bits .and .u32 y 2147483648=if y<2147483648 then 0 else 2147483648:=by
 obtain⟨m,rfl⟩:=eq_ofNat_of_zero_le h0
 show IntKind.u32.wrap (((BitVec.ofInt 32 (m:Int)) &&& (BitVec.ofInt 32 2147483648)).toNat:Int)=_
 rw[wrap_u32,BitVec.toNat_and,BitVec.toNat_ofInt,BitVec.toNat_ofInt]
 have e1:((m:Int) % ((2^32:Nat):Int)).toNat=m:=om
 have e2:((2147483648:Int) % ((2^32:Nat):Int)).toNat=2^31:=by decide
 rw[e1,e2,yJ]
 have:m.testBit 31=decide (2147483648<=m):=by
  rw[Nat.testBit_eq_decide_div_mod_eq]
  have e:m / 2^31=m / 2147483648:=rfl
  rw[e]
  by_cases hm:2147483648<=m
  ·have:m / 2147483648=1:=om
   rw[this];simp[hm]
  ·have:m / 2147483648=0:=om
   rw[this];simp[hm]
 rw[this]
 by_cases hm:2147483648<=m
 ·have h2:¬((m:Int)<2147483648):=om
  simp only[hm,decide_true,if_true]
  show _=if (m:Int)<2147483648 then _ else _
  rw[if_neg h2];rfl
 ·have h2:(m:Int)<2147483648:=om
  simp only[hm,decide_false,false_eq_true,if_false]
  show _=if (m:Int)<2147483648 then _ else _
  rw[if_pos h2];rfl
theorem EK {x p:Nat} (h:x<2^p):cc (x+2^p)=p+1:=by
 refine ta ?_ (λ_=>?_)
 ·rw[Nat.pow_succ];omega
 ·rw[Nat.add_sub_cancel];omega
theorem oa {a:List Int} {Q:Int->Prop} (ha:Words a) (la:SM a) (h:Q (cc (val a))):jv a Q:=by
 unfold SM at la
 refine⟨λy=>∃i:Nat,y.2=i/\i<=a.length/\y.1=((cc (pv a i).toNat:Nat):Int),λy=>a.length-y.2.toNat,⟨0,rfl,om,rfl⟩,?_⟩
 rintro⟨n,x⟩ ⟨i,hx,hi,hn⟩
 simp only at hx hi hn
 subst hx hn
 have hxi:=ha i
 obtain⟨w,hw⟩:∃w:Nat,a.getD i 0=w:=⟨(a.getD i 0).toNat,om⟩
 obtain⟨b1,b2⟩:=bz ha i
 obtain⟨A,hA⟩:∃A:Nat,pv a i=A:=⟨(pv a i).toNat,om⟩
 have hW:(4294967296:Int)^i=((2^(32*i):Nat):Int):=by rw[pow_mul];simp
 refine condT (λhlt=>⟨⟨om,hlt⟩,?_⟩) (λhge=>?_)
 ·refine⟨λy=>∃k:Nat,y.2=k/\k<=32/\y.1=((cc (A+w % 2^k*2^(32*i)):Nat):Int),λy=>32-y.2.toNat,⟨0,rfl,om,?_⟩,?_⟩
  ·show((cc (pv a i).toNat:Nat):Int)=_
   rw[hA];simp[Nat.mod_one]
  rintro⟨n,x⟩ ⟨k,hx,hk,hn⟩
  simp only at hx hk hn
  subst hx hn
  refine condT (λhk2=>⟨⟨om,om⟩,?_⟩) (λhk2=>⟨zRg,⟨i+1,rfl,om,?_⟩,by dsimp only;omega⟩)
  ·have hpk:0<2^k:=pow_pos om
   have ed:a.getD i 0 / 2^k=((w / 2^k:Nat):Int):=by rw[hw];simp
   have hdle:w / 2^k<=w:=Nat.div_le_self _ _
   have hsucc:w % 2^(k+1)=w % 2^k+2^k*(w / 2^k % 2):=Nat.mod_pow_succ
   generalize w / 2^k=z at *
   rw[gH,toNat_natCast,ed,Gf om om]
   refine bV (λhe=>⟨zRg,zRg,zRg,zRg,⟨k+1,rfl,om,?_⟩,by dsimp only;omega⟩) (λhe=>⟨zRg,⟨k+1,rfl,om,?_⟩,by dsimp only;omega⟩)
   ·have h2:z % 2=1:=om
    show 32*(i:Int)+k+1=_
    rw[hsucc,h2,mul_one]
    have e:A+(w % 2^k+2^k)*2^(32*i)=(A+w % 2^k*2^(32*i))+2^(32*i+k):=by
     rw[Nat.add_mul,Nat.pow_add,Nat.mul_comm (2^(32*i)) (2^k)];omega
    have hlt2:A+w % 2^k*2^(32*i)<2^(32*i+k):=by
     have h3:w % 2^k<2^k:=mod_lt _ hpk
     have h4:(w % 2^k+1)*2^(32*i)<=2^k*2^(32*i):=Nat.mul_le_mul_right _ h3
     rw[Nat.pow_add,Nat.mul_comm (2^(32*i)) (2^k)]
     rw[Nat.add_mul] at h4
     omega
    rw[e,EK hlt2];omega
   ·have h2:z % 2=0:=om
    show((cc (A+w % 2^k*2^(32*i)):Nat):Int)=_
    rw[hsucc,h2,Nat.mul_zero,Nat.add_zero]
  ·obtain rfl:k=32:=om
   show((cc (A+w % 2^32*2^(32*i)):Nat):Int)=((cc (pv a (i+1)).toNat:Nat):Int)
   have hm:w % 2^32=w:=mod_eq_of_lt om
   have:(pv a (i+1)).toNat=A+w*2^(32*i):=by
    have:pv a (i+1)=((A+w*2^(32*i):Nat):Int):=by rw[pv,hA,hw,hW,natCast_add,natCast_mul]
    omega
   rw[hm,this]
 ·obtain rfl:i=a.length:=om
  exact h
theorem Fj {s:Nat} (h:s<=31):rng ((s:Int)+1):=by unfold rng;omega
theorem F5 {s:Nat} (h:s<=31):32-((s:Int)+1).toNat<32-(s:Int).toNat:=om
theorem yC {m n:Nat}:0<ou m n↔n<m:=by
 unfold ou
 by_cases h:m<n
 ·simp only[h,if_true];omega
 ·rw[if_neg h];split<;>omega
theorem xf {R k:Nat} (h:R<4294967296^k):(R:Int)=pv (lim R) k:=by
 have h1:=i7 h
 have h2:=eK (aI R) h1
 rw[ba] at h2
 exact h2
theorem BQ {g:Nat} (h:g<4294967296):val [(g:Int)]=g:=by
 rw[ky (Words.one om om),nT];omega
set_option maxHeartbeats 2000000 in
theorem o_ {a b:List Int} {Q:List Int->List Int->Int->Prop} (ha:Words a) (hb:Words b) (la:a.length<=1099511627760) (lb:b.length<=1099511627760)
  (h0:val b=0->Q [] [] 8) (h:val b≠0->Q (lim (val a / val b)) (lim (val a % val b)) 0):kE a b Q:=by
 refine dV hb (by unfold SM;omega) ?_
 have b2:=dM hb
 have w2:=aI (val b)
 have v2:=ba (val b)
 refine bV (λhc=>?_) (λhc=>?_)
 ·have:(lim (val b)).length=0:=om
  have:lim (val b)=[]:=eq_nil_of_length_eq_zero this
  rw[this,nT] at v2
  exact h0 v2.symm
 have hB:val b≠0:=by intro hh;rw[hh,dr] at hc;exact hc rfl
 replace h:=h hB
 clear h0
 obtain⟨m,hm⟩:∃m,(lim (val b)).length=m+1:=⟨(lim (val b)).length-1,om⟩
 have htop:=ym hB
 have hbd:=cB w2
 rw[v2] at hbd
 generalize hA:val a=A at *
 generalize hBv:val b=B at *
 generalize hlb:lim B=bl at *
 rw[hm] at htop hbd
 rw[Nat.add_sub_cancel] at htop
 have hwt:=w2 m
 have hml:(bl.length:Int)-1=(m:Int):=om
 obtain⟨tp,htp⟩:∃x:Nat,bl.getD m 0=x:=⟨(bl.getD m 0).toNat,om⟩
 rw[htp] at htop hwt
 have htp0:tp≠0:=om
 have c1:=pU (n:=tp)
 have c2:=ox htp0
 have c3:=pV (x:=tp) om
 have c4:cc tp≠0:=by unfold cc;rw[if_neg htp0];omega
 have hPm:=fw m
 refine⟨λy=>∃s:Nat,y=s/\s<=32-cc tp,λy=>32-y.toNat,⟨0,rfl,om⟩,?_⟩
 rintro _ ⟨s,rfl,hs⟩
 have hps:=fO s
 have hsle:(2:Int)^(cc tp)*2^s<=4294967296:=by
  have e1:(2:Int)^(cc tp+s)*2^(32-(cc tp+s))=4294967296:=j0 (c:=32) om
  rw[<-pow_add]
  have:=fO (32-(cc tp+s))
  have h3:=fO (cc tp+s)
  have:(2:Int)^(cc tp+s)*1<=2^(cc tp+s)*2^(32-(cc tp+s)):=mul_le_mul_of_nonneg_left om om
  omega
 have f1:(tp:Int)+1<=2^(cc tp):=by exact_mod_cast c1
 have g1:((tp:Int)+1)*2^s<=2^(cc tp)*2^s:=mul_le_mul_of_nonneg_right f1 om
 have g1':((tp:Int)+1)*2^s=tp*2^s+2^s:=by rw[add_mul];omega
 have ht0:0<=(tp:Int)*2^s:=mul_nonneg om om
 have hw32:(tp:Int)*2^s % 4294967296=tp*2^s:=Int.emod_eq_of_lt ht0 om
 rw[hml,gH,htp,toNat_natCast,wrap_u32,hw32,Ge ht0 om]
 have hs31:s<=31:=om
 have hr1:rng ((s:Int)+1):=Fj hs31
 have hr2:32-((s:Int)+1).toNat<32-((s:Int)).toNat:=F5 hs31
 refine⟨zRg,⟨om,om⟩,⟨om,om⟩,bV (λhe=>⟨hr1,⟨s+1,rfl,?_⟩,hr2⟩) (λhe=>?_)⟩
 ·
  have hlt:(tp:Int)*2^s<2147483648:=by
   rcases lt_or_le ((tp:Int)*2^s) 2147483648 with hh | hh
   ·exact hh
   ·rw[if_neg om] at he;cases he
  rcases lt_or_ge s (32-cc tp) with hh | hh
  ·omega
  ·exfalso
   have hse:s=32-cc tp:=om
   have e2:(2:Int)^(cc tp-1)*2^s=2147483648:=j0 (c:=31) om
   have f2:(2:Int)^(cc tp-1)<=tp:=by exact_mod_cast c2
   have g2:(2:Int)^(cc tp-1)*2^s<=tp*2^s:=mul_le_mul_of_nonneg_right f2 om
   omega
 have hge31:2147483648<=(tp:Int)*2^s:=by
  rcases lt_or_le ((tp:Int)*2^s) 2147483648 with hh | hh
  ·rw[if_pos hh] at he;exact absurd rfl he
  ·exact hh
 clear he
 refine uW ha om om (uW w2 om om ?_)
 rw[hA,v2]
 obtain⟨A2,hA2⟩:∃A2,A2=A*2^s:=⟨_,rfl⟩
 obtain⟨B2,hB2⟩:∃B2,B2=B*2^s:=⟨_,rfl⟩
 rw[<-hA2,<-hB2]
 have hB2i:(B2:Int)=(B:Int)*2^s:=by rw[hB2];simp
 have hbm:=bz w2 m
 have hbd2:(B:Int)=pv bl m+tp*4294967296^m:=by rw[hbd,pv,htp]
 have ew1:(4294967296:Int)^(m+1)=4294967296^m*4294967296:=pow_succ ..
 have hB2lt:(B2:Int)<4294967296^(m+1):=by
  have k1:(B:Int)+1<=(tp+1)*4294967296^m:=by rw[add_mul];omega
  have k2:((B:Int)+1)*2^s<=((tp+1)*4294967296^m)*2^s:=mul_le_mul_of_nonneg_right k1 om
  have k4:(((tp:Int)+1)*2^s)*4294967296^m<=4294967296*4294967296^m:=mul_le_mul_of_nonneg_right om om
  rw[mul_right_comm] at k2
  rw[add_mul] at k2
  rw[hB2i,ew1]
  omega
 have hB2ge:2147483648*4294967296^m<=(B2:Int):=by
  have k1:(tp:Int)*4294967296^m<=B:=om
  have k2:(tp:Int)*4294967296^m*2^s<=B*2^s:=mul_le_mul_of_nonneg_right k1 om
  have k3:2147483648*4294967296^m<=(tp:Int)*2^s*4294967296^m:=mul_le_mul_of_nonneg_right hge31 om
  rw[mul_right_comm] at k2
  omega
 have hB20:0<B2:=om
 have hB2N:B2<4294967296^(m+1):=by
  have:((4294967296^(m+1):Nat):Int)=(4294967296:Int)^(m+1):=by simp
  omega
 have wA:=aI A2
 have vA:=ba A2
 have wB:=aI B2
 have hlB:(lim B2).length<=m+1:=i7 hB2N
 have hLA:(lim A2).length<=1099511627762:=by
  have k1:A<4294967296^a.length:=by rw[<-hA];exact nU ha
  have k2:A*2^s<4294967296^(a.length+1):=by
   rw[Nat.pow_succ]
   have k3:2^s<=2^32:=pow_le_pow_right om om
   exact Nat.mul_lt_mul_of_lt_of_le k1 k3 om
  rw[hA2]
  have:=i7 k2
  omega
 have hBtop:=xf hB2N
 generalize hlA2:lim A2=al at *
 generalize hlB2:lim B2=bl2 at *
 obtain⟨L,hL⟩:∃L,al.length=L:=⟨_,rfl⟩
 have hApv:(A2:Int)=pv al L:=by rw[<-vA,<-hL];exact cB wA
 obtain⟨r0,hr0⟩:∃r0,r0=[]++cg al (max 0 ((al.length:Int)-(bl.length:Int)+1)) (al.length:Int):=⟨_,rfl⟩
 obtain⟨J,hJ⟩:∃J,J=L-m:=⟨_,rfl⟩
 have hr0d:r0=al.drop J:=by
  rw[hr0]
  show []++(al.drop _).take _=_
  have e:(max 0 ((al.length:Int)-(bl.length:Int)+1)).toNat=J:=om
  rw[e,List.nil_append,toNat_natCast]
  exact List.take_of_length_le zSm
 rw[<-hr0]
 refine⟨rF om om,zRg,zRg,⟨om,om,om⟩,?_,zRg,?_⟩
 ·rw[hr0d];simp;omega
 have hr0w:Words r0:=by rw[hr0d];exact wA.drop J
 have hr0l:r0.length=L-J:=by rw[hr0d,List.length_drop,hL]
 have hsplit:(A2:Int)=pv al J+val r0*4294967296^J:=by
  have k0:L=J+(L-J):=om
  rw[hApv,k0,nD,cB hr0w,hr0l,hr0d]
 have hr0B:val r0<B2:=by
  have k1:=nU hr0w
  have k2:4294967296^r0.length<=4294967296^m:=pow_le_pow_right om om
  have k3:((4294967296^m:Nat):Int)=(4294967296:Int)^m:=by simp
  omega
 refine⟨λy=>∃j:Nat,(y.2.1=(j:Int)-1\/(j=0/\y.2.1<0))/\j<=L/\Words y.1/\y.1.length<=m+1/\val y.1<B2/\y.2.2.length=L/\Words y.2.2/\(∀k,k<j->y.2.2.getD k 0=0)/\(A2:Int)=pv y.2.2 L*B2+val y.1*4294967296^j+pv al j,
  λy=>(y.2.1+1).toNat,⟨J,?_,om,hr0w,by show r0.length<=_;omega,hr0B,by simp[bT,hL],Words.rep _,λk hk=>?_,?_⟩,?_⟩
 ·show(al.length:Int)-(bl.length:Int)=(J:Int)-1\/J=0/\(al.length:Int)-(bl.length:Int)<0
  rcases lt_or_ge L (m+1) with hh | hh
  ·right;omega
  ·left;omega
 ·show(replicate ((al.length:Int)).toNat (0:Int)).getD k 0=0
  rw[List.getD_eq_getElem?_getD,List.getElem?_replicate];split<;>rfl
 ·show(A2:Int)=pv (replicate ((al.length:Int)).toNat (0:Int)) L*B2+val r0*4294967296^J+pv al J
  rw[qB];omega
 clear hsplit hr0B hr0w hr0l hr0 hr0d
 clear r0
 rintro⟨r,x,q⟩ ⟨j,hx,hj,hrw,hrl,hrB,hql,hqw,hqz,hsum⟩
 simp only at hx hj hrw hrl hrB hql hqw hqz hsum
 refine condT (λhc=>?_) (λhc=>?_)
 ·obtain⟨i,rfl⟩:∃i,j=i+1:=⟨j-1,om⟩
  obtain rfl:x=(i:Int):=om
  have hai:=wA i
  rw[gH]
  have hw1:Words ([al.getD i 0]++r):=(Words.one hai.1 hai.2).append hrw
  refine⟨⟨om,om⟩,by simp;omega,dV hw1 (by simp[SM];omega) ?_⟩
  obtain⟨R,hRd⟩:∃R,R=val ([al.getD i 0]++r):=⟨_,rfl⟩
  rw[<-hRd]
  have hRv:(R:Int)=al.getD i 0+4294967296*val r:=by
   rw[hRd]
   have:val ([al.getD i 0]++r)=(al.getD i 0).toNat+4294967296*val r:=ky hw1
   rw[this];omega
  have hRB:R<B2*4294967296:=om
  have hRn:R<4294967296^(m+2):=by
   have k1:B2*4294967296<4294967296^(m+1)*4294967296:=Nat.mul_lt_mul_of_pos_right hB2N om
   have k2:4294967296^(m+2)=4294967296^(m+1)*4294967296:=Nat.pow_succ ..
   omega
  have hRp:=xf hRn
  have wR:=aI R
  have hlR:(lim R).length<=m+2:=i7 hRn
  have vR:=ba R
  have hmb:(bl.length:Int)=((m+1:Nat):Int):=om
  rw[hmb]
  refine cJ wR ⟨zRg,cJ wR ⟨zRg,cJ wB ?_⟩⟩
  have h1:=wR (m+1)
  have h2:=wR m
  have h3:=wB m
  have hBt:(B2:Int)=pv bl2 m+bl2.getD m 0*4294967296^m:=by rw[hBtop,pv]
  have hb2m:=bz wB m
  have hr4:0<bl2.getD m 0:=by
   rcases lt_or_le 0 (bl2.getD m 0) with hh | hh
   ·exact hh
   ·have:bl2.getD m 0=0:=om
    rw[this] at hBt;omega
  have e32:(2:Int)^toNat 32=4294967296:=rfl
  rw[e32,wrap_u64_id (m:=(lim R).getD (m+1) 0*4294967296) om om,vE 32 h2.1 h2.2 om (by show _ % 4294967296=0;omega) om]
  generalize hhead:(lim R).getD (m+1) 0*4294967296+(lim R).getD m 0=head
  have hhead0:0<=head:=om
  have hq0:0<=head / bl2.getD m 0:=ediv_nonneg hhead0 om
  have hq1:head / bl2.getD m 0<=head:=Int.ediv_le_self _ hhead0
  rw[Int.tdiv_eq_ediv_of_nonneg hhead0,wrap_u64_id hq0 om]
  refine⟨om,iP ?_⟩
  obtain⟨g0,hg0⟩:∃g0:Nat,min (head / bl2.getD m 0) 4294967295=(g0:Int):=⟨(min (head / bl2.getD m 0) 4294967295).toNat,om⟩
  have hg0W:g0<4294967296:=om
  have hU:R<(g0+1)*B2:=by
   by_cases hcase:head / bl2.getD m 0<=4294967295
   ·have hge:head / bl2.getD m 0=g0:=om
    have k1:head<((g0:Int)+1)*bl2.getD m 0:=by
     have d1:head=bl2.getD m 0*(head / bl2.getD m 0)+head % bl2.getD m 0:=(mul_ediv_add_emod head _).symm
     have d2:head % bl2.getD m 0<bl2.getD m 0:=emod_lt_of_pos _ hr4
     rw[hge] at d1
     rw[add_mul,mul_comm];omega
    have k2:(head+1)*4294967296^m<=(((g0:Int)+1)*bl2.getD m 0)*4294967296^m:=mul_le_mul_of_nonneg_right om om
    have k3:(R:Int)=pv (lim R) m+head*4294967296^m:=by
     rw[hRp,pv,pv,ew1,<-hhead,add_mul,mul_assoc ((lim R).getD (m+1) 0),mul_comm 4294967296];omega
    have k4:=(bz wR m).2
    have k5:((g0:Int)+1)*B2=((g0:Int)+1)*pv bl2 m+(((g0:Int)+1)*bl2.getD m 0)*4294967296^m:=by rw[hBt,mul_add,mul_assoc]
    have k6:0<=((g0:Int)+1)*pv bl2 m:=mul_nonneg om hb2m.1
    have k7:(((g0+1)*B2:Nat):Int)=((g0:Int)+1)*B2:=by simp
    rw[add_mul] at k2
    omega
   ·have:g0=4294967295:=om
    subst this
    omega
  rw[hg0,wrap_u32]
  have hg0m:(g0:Int) % 4294967296=g0:=om
  rw[hg0m]
  refine mI wB (Words.one om om) (by simp;omega) ?_
  have vB:val bl2=B2:=by rw[<-hlB2];exact ba B2
  rw[BQ hg0W,vB]
  refine⟨λy=>∃g:Nat,y=((g:Int),lim (B2*g))/\g<4294967296/\R<(g+1)*B2,λy=>y.1.toNat,⟨g0,rfl,hg0W,hU⟩,?_⟩
  rintro _ ⟨g,rfl,hgW,hgU⟩
  have wP:=aI (B2*g)
  have vP:=ba (B2*g)
  have hPl:(lim (B2*g)).length<=m+2:=by
   refine i7 ?_
   rw[Nat.pow_succ]
   exact Nat.mul_lt_mul_of_lt_of_le hB2N om om
  refine pb wP wR (by unfold SM;omega) (by unfold SM;omega) ?_
  rw[vP,vR]
  refine condT (λhgt=>?_) (λhle=>?_)
  ·have hgt':=yC.1 hgt
   have hg1:1<=g:=by
    rcases Nat.eq_zero_or_pos g with hh | hh
    ·subst hh;simp at hgt'
    ·exact hh
   have hmul:B2*(g-1)=B2*g-B2:=by rw[Nat.mul_sub,mul_one]
   have hBle:B2<=B2*g:=Nat.le_mul_of_pos_right _ hg1
   refine mH wP wB (by unfold SM;omega) (by unfold SM;omega) (λhh=>?_) (λ_=>?_)
   ·rw[vP,vB] at hh;omega
   ·rw[vP,vB,wrap_u64_id (m:=(g:Int)-1) om om,<-hmul]
    refine⟨⟨g-1,?_,om,?_⟩,by dsimp only;omega⟩
    ·have:(g:Int)-1=((g-1:Nat):Int):=om
     rw[this]
    ·have:g-1+1=g:=om
     rw[this,Nat.mul_comm];exact hgt'
  ·have hle':B2*g<=R:=by
    rcases lt_or_ge R (B2*g) with hh | hh
    ·exact absurd (yC.2 hh) hle
    ·exact hh
   refine mH wR wP (by unfold SM;omega) (by unfold SM;omega) (λhh=>?_) (λ_=>?_)
   ·rw[vP,vR] at hh;omega
   ·rw[vP,vR,wrap_u32,f_]
    have hgm:(g:Int) % 4294967296=g:=om
    rw[hgm]
    have hRlt:R-B2*g<B2:=by rw[Nat.add_mul,Nat.mul_comm g] at hgU;omega
    have hqil:i<q.length:=om
    refine⟨⟨om,om⟩,zRg,⟨i,.inl rfl,om,aI _,?_,?_,by simp[hql],hqw.set _ om om,λk hk=>?_,?_⟩,by dsimp only;omega⟩
    ·show(lim (R-B2*g)).length<=m+1
     exact i7 om
    ·show val (lim (R-B2*g))<B2
     rw[ba];exact hRlt
    ·show(q.set i _).getD k 0=0
     rw[cG om];exact hqz k om
    ·show(A2:Int)=pv (q.set i (g:Int)) L*B2+val (lim (R-B2*g))*4294967296^i+pv al i
     rw[ba,gX hqil L om,hqz i om,sub_zero,hsum,add_mul,pv,pow_succ]
     have k1:((R-B2*g:Nat):Int)=(R:Int)-B2*g:=by rw[Int.natCast_sub hle'];simp
     have k2:((R:Int)-B2*g)*4294967296^i=R*4294967296^i-g*4294967296^i*B2:=by
      generalize (4294967296:Int)^i=z
      grind
     have k3:(R:Int)*4294967296^i=al.getD i 0*4294967296^i+val r*(4294967296^i*4294967296):=by
      rw[hRv,add_mul,mul_comm 4294967296 (val r:Int),mul_assoc,mul_comm 4294967296]
     rw[k1,k2,k3]
     omega
 ·obtain rfl:j=0:=om
  have hq1:=cB hqw
  rw[hql] at hq1
  simp only[pv,Int.pow_zero,Int.mul_one,Int.add_zero] at hsum
  rw[<-hq1] at hsum
  have hsumN:A2=val q*B2+val r:=by
   have:((A2:Nat):Int)=((val q*B2+val r:Nat):Int):=by rw[natCast_add,natCast_mul];exact hsum
   omega
  have hps':0<2^s:=pow_pos om
  have hdiv:A / B=val q:=by
   have k1:A*2^s / (B*2^s)=A / B:=Nat.mul_div_mul_right _ _ hps'
   rw[<-k1,<-hA2,<-hB2,hsumN,Nat.add_comm,Nat.add_mul_div_right _ _ hB20,Nat.div_eq_of_lt hrB];omega
  have hmod:A % B=val r / 2^s:=by
   have k1:A*2^s % (B*2^s)=A % B*2^s:=Nat.mul_mod_mul_right _ _ _
   rw[<-hA2,<-hB2,hsumN,Nat.add_comm,Nat.add_mul_mod_self_right,mod_eq_of_lt hrB] at k1
   rw[k1,Nat.mul_div_cancel _ hps']
  refine dV hqw (by unfold SM;omega) (ye hrw (by unfold SM;omega) om ?_)
  rw[<-hmod,<-hdiv]
  exact h
theorem tF {a b:List Int} {Q:List Int->Prop} (ha:Words a) (hb:Words b) (la:a.length<=1099511627760) (lb:b.length<=1099511627760) (h:Q (lim (gcd (val a) (val b)))):mJ a b Q:=by
 refine dV ha (by unfold SM;omega) (dV hb (by unfold SM;omega) ?_)
 have b1:=dM ha
 have b2:=dM hb
 refine⟨λy=>∃m n:Nat,y=(lim m,lim n)/\(lim m).length<=1099511627760/\(lim n).length<=1099511627760/\gcd m n=gcd (val a) (val b),λy=>val y.2,⟨_,_,rfl,om,om,rfl⟩,?_⟩
 rintro _ ⟨m,n,rfl,hm,hn,hg⟩
 refine condT (λhc=>?_) (λhc=>?_)
 ·have hn0:n≠0:=by rintro rfl;rw[dr] at hc;simp at hc
  refine o_ (aI m) (aI n) hm hn (λh0=>absurd (by rw[ba] at h0;exact h0) hn0) (λ_=>?_)
  rw[ba,ba]
  have hlt:=mod_lt m (Nat.pos_of_ne_zero hn0)
  refine⟨⟨n,m % n,rfl,hn,le_trans (cX (Nat.le_of_lt hlt)) hn,?_⟩,?_⟩
  ·rw[<-hg,gcd_comm n,<-Nat.gcd_rec,gcd_comm]
  ·show val (lim (m % n))<val (lim n)
   rw[ba,ba];exact hlt
 ·have hn0:n=0:=by
   rcases Nat.eq_zero_or_pos n with h0 | h0
   ·exact h0
   ·rw[gg h0] at hc;simp at hc
  subst hn0
  rw[Nat.gcd_zero_right] at hg
  rw[<-hg] at h
  exact h
theorem dG {σ:Type} {n:Nat} (J:Nat->σ->Prop) (ix:σ->Int) (c:Int) (hix:∀i y,J i y->ix y=i+c) {x0:σ} {body:σ->(σ->Prop)->Prop} (h0:J 0 x0)
  (hs:∀i y (next:σ->Prop),i<n->J i y->(∀z,J (i+1) z->next z)->body y next) (he:∀y (next:σ->Prop),J n y->body y next):bn x0 body:=by
 refine⟨λy=>∃i,i<=n/\J i y,λy=>n-(ix y-c).toNat,⟨0,Nat.zero_le _,h0⟩,?_⟩
 rintro y ⟨i,hi,hJ⟩
 rcases lt_or_ge i n with h | h
 ·refine hs i y _ h hJ λz hz=>⟨⟨i+1,h,hz⟩,?_⟩
  have h1:=hix i y hJ
  have h2:=hix (i+1) z hz
  dsimp only
  rw[h1,h2]
  omega
 ·obtain rfl:i=n:=om
  exact he y _ hJ
theorem ea {σ:Type} {n:Nat} (f:Nat->σ) (ix:σ->Int) (c:Int) (hix:∀i,ix (f i)=i+c) {x0:σ} {body:σ->(σ->Prop)->Prop} (h0:x0=f 0)
  (hs:∀i (next:σ->Prop),i<n->next (f (i+1))->body (f i) next) (he:∀(next:σ->Prop),body (f n) next):bn x0 body:=
 dG (λi y=>y=f i) ix c (λi y h=>by rw[h];exact hix i) h0 (λi y next hi hy hn=>hy▸hs i next hi (hn _ rfl)) (λy next hy=>hy▸he next)
theorem lk {n:Nat} (P:Nat->Prop) {E:Prop} {st:Int->(Int->Prop)->Prop} (hn:n<=9223372036854775807)
  (hs:∀(i:Nat) (next:Int->Prop),i<n->(∀j,j<i->¬P j)->(¬P i->rng ((i:Int)+1)/\next ((i:Int)+1))->st (i:Int) next)
  (he:(∀j,j<n->¬P j)->E):bn (σ:=Int) 0 (λx next=>an (decide (x<(n:Int))) (st x next) E):=by
 refine dG (n:=n) (λi y=>y=(i:Int)/\∀j,j<i->¬P j) (λy=>y) 0 (λi y h=>by rw[h.1,Int.add_zero]) ⟨rfl,λj hj=>absurd hj om⟩ ?_ ?_
 ·rintro i _ next hi ⟨rfl,hI⟩ hn2
  refine condT (λhc=>hs i next hi hI λhP=>⟨zRg,hn2 _ ⟨om,λj hj=>?_⟩⟩) (λhc=>absurd (show(i:Int)<n by omega) hc)
  rcases lt_or_ge j i with h1 | h1
  ·exact hI j h1
  ·obtain rfl:j=i:=om
   exact hP
 ·rintro _ next ⟨rfl,hI⟩
  exact condT (λhc=>absurd hc om) (λ_=>he hI)
def j4 (g:Nat->Int):Nat->Int
 | 0=>0
 | n+1=>if j4 g n=0 then g n else j4 g n
theorem cq {g:Nat->Int}:∀ {n:Nat},j4 g n=0↔∀i,i<n->g i=0
 | 0=>⟨λ_ i hi=>absurd hi om,λ_=>rfl⟩
 | n+1=>by
  rw[j4]
  constructor
  ·intro h i hi
   split at h
   ·rename_i h1
    rcases lt_or_ge i n with h2 | h2
    ·exact cq.1 h1 i h2
    ·obtain rfl:i=n:=om
     exact h
   ·rename_i h1;exact absurd h h1
  ·intro h
   rw[if_pos (cq.2 λi hi=>h i om)]
   exact h n om
theorem hZ {g:Nat->Int} {i:Nat} (h:∀j,j<i->g j=0) (hg:g i≠0):∀n,i<n->j4 g n=g i
 | 0,hn=>absurd hn om
 | n+1,hn=>by
  rw[j4]
  rcases lt_or_ge i n with h1 | h1
  ·rw[hZ h hg n h1,if_neg hg]
  ·obtain rfl:i=n:=om
   rw[if_pos (cq.2 h)]
def sgn (neg:Bool) (n:Nat):Int:=if neg then -(n:Int) else n
def bm (q:Rat):GRat:=if q.num=0 then ⟨false,[],[]⟩ else ⟨decide (q.num<0),lim q.num.natAbs,lim q.den⟩
def yf (a:GRat):Rat:=mkRat (sgn a.Y (val a.J)) (val a.L)
def eqR (a b:GRat):Bool:=a.Y == b.Y && a.J == b.J && a.L == b.L
def okR (a:GRat):Bool:=eqR a (bm (yf a))
def bB (a:GRat):Rat:=if okR a then yf a else 0
theorem r_ {a b:GRat}:eqR a b=true↔a=b:=by
 cases a;cases b
 simp[eqR,and_assoc]
theorem qw {n:Int}:sgn (decide (n<0)) n.natAbs=n:=by
 unfold sgn
 by_cases h:n<0
 ·simp only[h,decide_true,if_true];omega
 ·simp only[h,decide_false,false_eq_true,if_false];omega
theorem u_ (q:Rat):yf (bm q)=q:=by
 unfold bm
 by_cases h:q.num=0
 ·rw[if_pos h]
  have:q=0:=Rat.num_eq_zero.1 h
  subst this
  simp[yf,sgn,nT]
 ·rw[if_neg h]
  simp only[yf]
  rw[ba,ba,qw,Rat.mkRat_self]
theorem sI (q:Rat):okR (bm q)=true:=by
 unfold okR
 rw[u_]
 exact r_.2 rfl
theorem eD (q:Rat):bB (bm q)=q:=by rw[bB,sI,if_pos rfl,u_]
theorem sJ {a:GRat} (h:okR a=true):a=bm (bB a):=by
 have:=r_.1 h
 rw[bB,h,if_pos rfl]
 exact this
def gY (l:List Int):Bool:=decide (0<l.length) && (l.getD (l.length-1) 0 != 0)
theorem xq {n:Nat} (h:n≠0):gY (lim n)=true:=by
 have h1:=ym h
 have h2:(lim n).length≠0:=by rw[gg om];simp
 simp only[gY,Bool.and_eq_true,decide_eq_true_eq,bne_iff_ne]
 exact⟨om,h1⟩
theorem pL {l:List Int} (hw:Words l) (h:gY l=true):lim (val l)=l/\val l≠0:=by
 simp only[gY,Bool.and_eq_true,decide_eq_true_eq,bne_iff_ne] at h
 have h1:=BP hw (λ_=>h.2)
 refine⟨h1,λh0=>?_⟩
 rw[h0,dr] at h1
 rw[<-h1] at h
 simp at h
theorem Fh {b:Bool} {n:Nat} (h:n≠0):decide (sgn b n<0)=b:=by
 cases b
 ·simp[sgn]
 ·simp[sgn];omega
theorem pI {b:Bool} {n:Nat}:(sgn b n).natAbs=n:=by cases b<;>simp[sgn]
theorem DF {b:Bool}:sgn b 0=0:=by cases b<;>rfl
theorem Hd {b:Bool} {n:Nat} (h:n≠0):sgn b n≠0:=by
 intro h0
 have:=pI (b:=b) (n:=n)
 rw[h0] at this
 exact h (by simpa using this.symm)
theorem vp {b:Bool} {n d:Nat} (hn:n≠0) (hd:d≠0):bm (mkRat (sgn b n) d)=⟨b,lim (n / gcd n d),lim (d / gcd n d)⟩:=by
 have e1:(mkRat (sgn b n) d).num=sgn b (n / gcd n d):=by
  rw[Rat.num_mkRat,if_neg hd,pI,gcd_comm]
  cases b
  ·simp[sgn]
  ·simp only[sgn,if_true]
   have:((gcd n d:Nat):Int) ∣ (n:Int):=Int.natCast_dvd_natCast.2 (Nat.gcd_dvd_left n d)
   rw[Int.neg_ediv_of_dvd this]
   simp
 have e2:(mkRat (sgn b n) d).den=d / gcd n d:=by rw[Rat.den_mkRat,if_neg hd,pI,gcd_comm]
 have hg:0<n / gcd n d:=Nat.div_pos (Nat.le_of_dvd om (Nat.gcd_dvd_left n d)) (Nat.gcd_pos_of_pos_left _ om)
 unfold bm
 rw[e1,e2,if_neg (Hd om),Fh om,pI]
theorem sG {b:Bool} {d:Nat}:bm (mkRat (sgn b 0) d)=⟨false,[],[]⟩:=by rw[DF,Rat.zero_mkRat];rfl
theorem BI {a:GRat} (hn:Words a.J) (hd:Words a.L) :
  okR a=if a.J.length=0/\a.L.length=0 then !a.Y else gY a.J && (gY a.L && decide (gcd (val a.J) (val a.L)=1)):=by
 obtain⟨b,n,d⟩:=a
 simp only at hn hd ⊢
 by_cases h:n.length=0/\d.length=0
 ·rw[if_pos h]
  obtain rfl:=eq_nil_of_length_eq_zero h.1
  obtain rfl:=eq_nil_of_length_eq_zero h.2
  simp only[okR,yf,nT,sG]
  cases b<;>rfl
 ·rw[if_neg h]
  cases hp:gY n with
  | false=>
   rw[Bool.false_and]
   cases ho:okR ⟨b,n,d⟩ with
   | false=>rfl
   | true=>
    exfalso
    have e:=sJ ho
    unfold bm at e
    split at e
    ·cases e;exact h ⟨rfl,rfl⟩
    ·rename_i hz
     injection e with e1 e2 e3
     rw[e2,xq om] at hp
     cases hp
  | true=>
  rw[Bool.true_and]
  cases hq:gY d with
  | false=>
   rw[Bool.false_and]
   cases ho:okR ⟨b,n,d⟩ with
   | false=>rfl
   | true=>
    exfalso
    have e:=sJ ho
    unfold bm at e
    split at e
    ·cases e;exact h ⟨rfl,rfl⟩
    ·rename_i hz
     injection e with e1 e2 e3
     rw[e3,xq (Rat.den_nz _)] at hq
     cases hq
  | true=>
  rw[Bool.true_and]
  obtain⟨n1,n2⟩:=pL hn hp
  obtain⟨d1,d2⟩:=pL hd hq
  have hm:bm (yf ⟨b,n,d⟩)=⟨b,lim (val n / gcd (val n) (val d)),lim (val d / gcd (val n) (val d))⟩:=vp n2 d2
  by_cases hg:gcd (val n) (val d)=1
  ·rw[hg] at hm
   simp only[hg,decide_true]
   rw[okR]
   refine r_.2 ?_
   rw[hm,Nat.div_one,Nat.div_one,n1,d1]
  ·simp only[hg,decide_false]
   cases ho:okR ⟨b,n,d⟩ with
   | false=>rfl
   | true=>
    exfalso
    have e:=r_.1 ho
    rw[hm] at e
    injection e with e1 e2 e3
    have e4:val n=val n / gcd (val n) (val d):=by
     have:=congrArg val e2
     rwa[ba] at this
    have hgp:0<gcd (val n) (val d):=Nat.gcd_pos_of_pos_left _ om
    have:=Nat.div_lt_self (n:=val n) om (show 1<gcd (val n) (val d) by omega)
    omega
def RB (k:Nat) (q:Rat):Prop:=q.num.natAbs<2^k/\q.den<2^k
theorem RB.mono {k l:Nat} {q:Rat} (h:RB k q) (hkl:k<=l):RB l q:=
 ⟨Nat.lt_of_lt_of_le h.1 (pow_le_pow_right om hkl),Nat.lt_of_lt_of_le h.2 (pow_le_pow_right om hkl)⟩
theorem gh {n k:Nat} (h:n<2^k):(lim n).length<=k / 32+1:=by
 refine i7 (Nat.lt_of_lt_of_le h ?_)
 have:(4294967296:Nat)^(k / 32+1)=2^(32*(k / 32+1)):=by rw[pow_mul]
 rw[this]
 exact pow_le_pow_right om om
theorem pX (k:Nat) (hk:1<=k):RB k 0:=⟨by simp;exact pow_pos om,by
 have:2^1<=2^k:=pow_le_pow_right om hk
 simp;omega⟩
theorem eR {m n k l:Nat} (h:m<2^k) (h':n<2^l):m*n<2^(k+l):=by
 rw[Nat.pow_add]
 exact Nat.mul_lt_mul'' h h'
theorem pB {n:Int} {d k:Nat} (hd:d≠0) (hn:n.natAbs<2^k) (hdk:d<2^k):RB k (mkRat n d):=by
 refine⟨?_,?_⟩
 ·rw[Rat.num_mkRat,if_neg hd]
  refine Nat.lt_of_le_of_lt ?_ hn
  exact Int.natAbs_ediv_le_natAbs _ _
 ·rw[Rat.den_mkRat,if_neg hd]
  exact Nat.lt_of_le_of_lt (Nat.div_le_self _ _) hdk
theorem yM {k l:Nat} {p q:Rat} (hp:RB k p) (hq:RB l q):RB (k+l) (p*q):=by
 rw[Rat.mul_def']
 refine pB (mul_ne_zero p.den_nz q.den_nz) ?_ (eR hp.2 hq.2)
 rw[Int.natAbs_mul]
 exact eR hp.1 hq.1
theorem Be {k l:Nat} {p q:Rat} (hp:RB k p) (hq:RB l q):RB (k+l+1) (p+q):=by
 rw[Rat.add_def']
 refine pB (mul_ne_zero p.den_nz q.den_nz) ?_ (Nat.lt_of_lt_of_le (eR hp.2 hq.2) (pow_le_pow_right om om))
 have h1:(p.num*q.den).natAbs<2^(k+l):=by rw[Int.natAbs_mul];exact eR hp.1 (by simpa using hq.2)
 have h2:(q.num*p.den).natAbs<2^(k+l):=by rw[Int.natAbs_mul,Nat.add_comm k l];exact eR hq.1 (by simpa using hp.2)
 have h3:=Int.natAbs_add_le (p.num*q.den) (q.num*p.den)
 rw[Nat.pow_succ]
 omega
theorem wC {k:Nat} {p:Rat} (hp:RB k p):RB k (-p):=⟨by simpa using hp.1,hp.2⟩
theorem H4 {k:Nat} {p:Rat} (hp:RB k p):RB k p⁻¹:=by
 by_cases h0:p.num=0
 ·have:p=0:=Rat.num_eq_zero.1 h0
  subst this
  simpa using hp
 ·refine⟨?_,?_⟩
  ·rw[Rat.num_inv,Int.natAbs_mul,Int.natAbs_sign_of_ne_zero h0,Nat.one_mul];simpa using hp.2
  ·rw[Rat.den_inv,if_neg h0];exact hp.1
theorem tm {k l:Nat} {p q:Rat} (hp:RB k p) (hq:RB l q):RB (k+l) (p / q):=by rw[Rat.div_def];exact yM hp (H4 hq)
theorem Bd {k l:Nat} {p q:Rat} (hp:RB k p) (hq:RB l q):RB (k+l+1) (p-q):=by rw[Rat.sub_eq_add_neg];exact Be hp (wC hq)
theorem oB {k:Nat} {n:Int} (hk:1<=k) (h:n.natAbs<2^k):RB k (n:Rat):=⟨h,by
 have:2^1<=2^k:=pow_le_pow_right om hk
 show 1<2^k
 omega⟩
theorem Gk {a:GRat} {m:Nat} (hn:Words a.J) (hd:Words a.L) (h1:a.J.length<=m) (h2:a.L.length<=m):RB (32*m+1) (bB a):=by
 unfold bB
 split
 ·unfold yf
  by_cases hd0:val a.L=0
  ·rw[hd0,Rat.mkRat_zero];exact pX _ om
  ·have e:∀l:List Int,Words l->l.length<=m->val l<2^(32*m+1):=λl hw hl=>by
    have k1:=nU hw
    have k2:(4294967296:Nat)^l.length<=4294967296^m:=pow_le_pow_right om hl
    have k3:(4294967296:Nat)^m=2^(32*m):=by rw[pow_mul]
    have k4:2^(32*m)<=2^(32*m+1):=pow_le_pow_right om om
    omega
   exact pB hd0 (by rw[pI];exact e _ hn h1) (e _ hd h2)
 ·exact pX _ om
def Fr (a:GRat):Prop:=Words a.J/\Words a.L/\a.J.length<=1099511627760/\a.L.length<=1099511627760
theorem pC {q:Rat} {k:Nat} (h:RB k q) (hk:k<=35184372088000):Fr (bm q):=by
 unfold bm
 split
 ·exact⟨Words.nil,Words.nil,by simp,by simp⟩
 ·have h1:=gh h.1
  have h2:=gh h.2
  exact⟨aI _,aI _,by dsimp only;omega,by dsimp only;omega⟩
theorem jF {n:Nat}:((lim n).length:Int)=0↔n=0:=by
 constructor
 ·intro h
  rcases Nat.eq_zero_or_pos n with h0 | h0
  ·exact h0
  ·rw[gg h0] at h;simp at h;omega
 ·rintro rfl;rw[dr];rfl
theorem iz {n:Nat}:(cc n:Int)=0↔n=0:=by
 unfold cc
 split<;>omega
theorem Bt {b:Bool} {m n:Nat}:sgn b (m*n)=sgn b m*(n:Int):=by
 cases b<;>simp[sgn,natCast_mul,Int.neg_mul]
theorem zk {b c:Bool} {m n:Nat}:sgn (b != c) (m*n)=sgn b m*sgn c n:=by
 cases b<;>cases c<;>simp[sgn,natCast_mul,Int.neg_mul,Int.mul_neg,Int.neg_neg]
theorem Bu {b:Bool} {m n:Nat}:sgn b (m+n)=sgn b m+sgn b n:=by
 cases b<;>simp only[sgn,false_eq_true,if_false,if_true]<;>omega
theorem um {b c:Bool} {m n:Nat} (hbc:¬b=c) (h:n<=m):sgn b (m-n)=sgn b m+sgn c n:=by
 cases b<;>cases c<;>first | exact absurd rfl hbc | (simp only[sgn,false_eq_true,if_false,if_true];omega)
theorem oW (q:Rat):sgn (decide (q.num<0)) q.num.natAbs=q.num:=qw
theorem xN:val [1]=1:=BQ (g:=1) om
theorem GB:lim 1=[1]:=by rw[gg om];simp[dr]
theorem xM:Words [1]:=Words.one om om
theorem eG {neg:Bool} {num den:List Int} {Q:GRat->Prop} (hn:Words num) (hd:Words den) (ln:num.length<=1099511627760) (ld:den.length<=1099511627760)
  (h0:val den≠0) (h:Q (bm (mkRat (sgn neg (val num)) (val den)))):cS neg num den Q:=by
 refine vJ hn (by unfold SM;omega) (bV (λhc=>?_) (λhc=>?_))
 ·rw[iz] at hc
  rw[hc,sG] at h
  exact h
 ·have hn0:val num≠0:=λhh=>hc (iz.2 hh)
  rw[vp hn0 h0] at h
  have hgp:gcd (val num) (val den)≠0:=Nat.ne_of_gt (Nat.gcd_pos_of_pos_left _ om)
  refine ql hn hd om om ?_
  have hgl:(lim (gcd (val num) (val den))).length<=1099511627760:=by
   refine le_trans (cX (Nat.gcd_le_left _ om)) (le_trans (dM hn) ln)
  refine nj hn (aI _) om om (λhh=>absurd (by rwa[ba] at hh) hgp) (λ_=>?_)
  refine nj hd (aI _) om om (λhh=>absurd (by rwa[ba] at hh) hgp) (λ_=>?_)
  rw[ba]
  exact h
theorem nB {a:List Int} {Q:Bool->Prop} (la:a.length<=1099511627776) (h:Q (gY a)):im a Q:=by
 refine condT (λhc=>⟨zRg,om,?_⟩) (λhc=>?_)
 ·have e:gY a=(at' a ((a.length:Int)-1) != 0):=by
   have:(a.length:Int)-1=((a.length-1:Nat):Int):=om
   rw[this,gH]
   simp only[gY]
   rw[decide_eq_true (by omega:0<a.length),Bool.true_and]
  rw[<-e];exact h
 ·have e:gY a=false:=by
   simp only[gY]
   rw[decide_eq_false (by omega:¬0<a.length),Bool.false_and]
  rw[e] at h;exact h
theorem bf {b:Bool} {p q:Prop} (h1:b=true->p) (h2:b=false->q):an b p q:=⟨h1,h2⟩
theorem uc {n:Nat} {Q:Int->Prop} (hl:(lim n).length<=1099511627776) (h:Q (ou n 1)):dX (lim n) [1] Q:=by
 refine gD (aI _) xM (by unfold SM;omega) (by unfold SM;simp) ?_
 rw[ba,xN]
 exact h
theorem EE {m n:Nat}:(ou m n == 0)=decide (m=n):=by
 unfold ou
 split
 ·rw[decide_eq_false om];rfl
 ·split
  ·rename_i h;rw[decide_eq_true h];rfl
  ·rename_i h;rw[decide_eq_false h];rfl
theorem nC {a:GRat} {Q:Bool->Prop} (fa:Fr a) (h:Q (okR a)):io a Q:=by
 obtain⟨hn,hd,ln,ld⟩:=fa
 rw[BI hn hd] at h
 refine⟨λx=>x=decide (a.J.length=0/\a.L.length=0),?_,?_⟩
 ·refine bV (λhc=>?_) (λhc=>?_)
  ·by_cases hd0:a.L.length=0
   ·rw[decide_eq_true ⟨om,hd0⟩];simp;exact eq_nil_of_length_eq_zero hd0
   ·rw[decide_eq_false om];simp;intro hh;exact hd0 (by rw[hh];rfl)
  ·rw[decide_eq_false om]
 ·rintro _ rfl
  refine condT (λhc=>?_) (λhc=>?_)
  ·rw[if_pos hc] at h;exact h
  ·rw[if_neg hc] at h
   refine nB om (bf (λhp=>?_) (λhp=>?_))
   ·rw[hp,Bool.true_and] at h
    refine nB om (bf (λhq=>?_) (λhq=>?_))
    ·rw[hq,Bool.true_and] at h
     refine ql hn hd om om ?_
     have hgl:(lim (gcd (val a.J) (val a.L))).length<=1099511627760:=by
      refine le_trans (cX (Nat.gcd_le_left _ ?_)) (le_trans (dM hn) ln)
      have:=(pL hn hp).2
      omega
     show dX (lim (gcd (val a.J) (val a.L))) [1] (λr4=>Q (r4 == 0))
     refine uc om ?_
     rw[EE]
     exact h
    ·rw[hq,Bool.false_and] at h;exact h
   ·rw[hp,Bool.false_and] at h;exact h
theorem Dp {a:GRat} (h:okR a=false):bB a=0:=by rw[bB,h];rfl
theorem vv {a:GRat} (h:okR a=true->a.J.length=0):bB a=0:=by
 cases ho:okR a with
 | false=>exact Dp ho
 | true=>
  have e:=sJ ho
  have hl:=h ho
  unfold bm at e
  split at e
  ·rename_i hz;exact Rat.num_eq_zero.1 hz
  ·rename_i hz
   rw[e] at hl
   have:=jF.1 (by rw[hl];rfl)
   omega
theorem vz {a:GRat} (ho:okR a=true) (hl:a.J.length≠0):(bB a).num≠0/\a=⟨decide ((bB a).num<0),lim (bB a).num.natAbs,lim (bB a).den⟩:=by
 have e:=sJ ho
 by_cases hz:(bB a).num=0
 ·exfalso
  unfold bm at e
  rw[if_pos hz] at e
  rw[e] at hl
  exact hl rfl
 ·refine⟨hz,?_⟩
  unfold bm at e
  rw[if_neg hz] at e
  exact e
theorem dK {a:GRat} {Q:Bool->List Int->List Int->Prop} (fa:Fr a) (h:Q (decide ((bB a).num<0)) (lim (bB a).num.natAbs) (lim (bB a).den)):cV a Q:=by
 refine⟨λx=>x=(!okR a || decide (a.J.length=0)),?_,?_⟩
 ·refine nC fa (bf (λhc=>?_) (λhc=>?_))
  ·rw[hc];rfl
  ·rw[hc,Bool.false_or]
   by_cases hl:a.J.length=0
   ·rw[decide_eq_true hl];simp;exact eq_nil_of_length_eq_zero hl
   ·rw[decide_eq_false hl];simp;intro hh;exact hl (by rw[hh];rfl)
 ·rintro _ rfl
  refine bf (λhc=>?_) (λhc=>?_)
  ·have hz:bB a=0:=vv (λho=>by rw[ho] at hc;simpa using hc)
   rw[hz] at h
   simp at h
   rw[dr,GB] at h
   exact h
  ·simp at hc
   obtain⟨_,e⟩:=vz hc.1 (λhl=>hc.2 (eq_nil_of_length_eq_zero hl))
   rw[show a.Y=decide ((bB a).num<0) from by rw[e];simp[<-e],show a.J=lim (bB a).num.natAbs from by rw[e];simp[<-e],show a.L=lim (bB a).den from by rw[e];simp[<-e]]
   exact h
theorem nu {q:Rat} {k:Nat} (h:RB k q):(lim q.num.natAbs).length<=k / 32+1/\(lim q.den).length<=k / 32+1:=⟨gh h.1,gh h.2⟩
theorem kq {m n k l:Nat} (h:m<2^k) (h':n<2^l):(lim (m*n)).length<=(k+l) / 32+1:=gh (eR h h')
theorem Ci {m n k:Nat} (h:m<2^k) (h':n<2^k):(lim (m+n)).length<=(k+1) / 32+1:=gh (by rw[Nat.pow_succ];omega)
theorem Al (p q:Rat):p+q=mkRat (sgn (decide (p.num<0)) (p.num.natAbs*q.den)+sgn (decide (q.num<0)) (q.num.natAbs*p.den)) (p.den*q.den):=by
 rw[Bt,Bt,oW,oW,Rat.add_def']
theorem Eg (p q:Rat):p*q=mkRat (sgn (decide (p.num<0) != decide (q.num<0)) (p.num.natAbs*q.num.natAbs)) (p.den*q.den):=by
 rw[zk,oW,oW,Rat.mul_def']
theorem Ej {q:Rat} (_h:q.num≠0):q⁻¹=mkRat (sgn (decide (q.num<0)) q.den) q.num.natAbs:=by
 rw[Rat.inv_def]
 by_cases hn:q.num<0
 ·rw[decide_eq_true hn]
  have e:q.num = -((q.num.natAbs:Nat):Int):=om
  rw[<-Rat.divInt_ofNat]
  show Rat.divInt q.den q.num=Rat.divInt (-(q.den:Int)) _
  rw[<-Rat.divInt_neg',<-e]
 ·rw[decide_eq_false hn]
  have e:q.num=((q.num.natAbs:Nat):Int):=om
  rw[<-Rat.divInt_ofNat]
  show Rat.divInt q.den q.num=Rat.divInt (q.den:Int) _
  rw[<-e]
theorem Aa (p:Rat) {q:Rat} (h:q.num≠0):p / q=mkRat (sgn (decide (p.num<0) != decide (q.num<0)) (p.num.natAbs*q.den)) (p.den*q.num.natAbs):=by
 rw[Rat.div_def,Ej h,zk,oW]
 have:p=mkRat p.num p.den:=(Rat.mkRat_self p).symm
 rw[this,Rat.mkRat_mul_mkRat,<-this]
theorem zL (p:Rat) : -p=mkRat (sgn (!decide (p.num<0)) p.num.natAbs) p.den:=by
 have e:sgn (!decide (p.num<0)) p.num.natAbs = -p.num:=by
  by_cases h:p.num<0
  ·rw[decide_eq_true h];simp only[sgn,Bool.not_true,false_eq_true,if_false];omega
  ·rw[decide_eq_false h];simp only[sgn,Bool.not_false,if_true];omega
 rw[e,<-Rat.neg_mkRat,Rat.mkRat_self]
theorem pd {a b:GRat} {k l:Nat} {Q:GRat->Prop} (fa:Fr a) (fb:Fr b) (ka:RB k (bB a)) (kb:RB l (bB b)) (hk:k+l+1<=35184372088000) (h:Q (bm (bB a+bB b))):d7 a b Q:=by
 refine dK fa (dK fb ?_)
 generalize bB a=p at ka h ⊢
 generalize bB b=q at kb h ⊢
 have la:=nu ka
 have lb:=nu kb
 have l1:=kq ka.1 kb.2
 have l2:=kq kb.1 ka.2
 have l3:=kq ka.2 kb.2
 have hd:p.den*q.den≠0:=mul_ne_zero p.den_nz q.den_nz
 refine fH (aI _) (aI _) om (fH (aI _) (aI _) om (fH (aI _) (aI _) om ?_))
 simp only[ba]
 rw[Al] at h
 refine bV (λhs=>?_) (λhs=>?_)
 ·refine w7 (aI _) (aI _) (by unfold SM;omega) ⟨om,om⟩ ?_
  simp only[ba]
  have l4:(lim (p.num.natAbs*q.den+q.num.natAbs*p.den)).length<=(k+l+1) / 32+1:=Ci (eR ka.1 kb.2) (by rw[Nat.add_comm k];exact eR kb.1 ka.2)
  refine eG (aI _) (aI _) om om (by rw[ba];exact hd) ?_
  rw[ba,ba,Bu]
  rw[<-hs] at h
  exact h
 ·refine gD (aI _) (aI _) (by unfold SM;omega) (by unfold SM;omega) ?_
  simp only[ba]
  refine condT (λhc=>?_) (λhc=>?_)
  ·have hle:q.num.natAbs*p.den<=p.num.natAbs*q.den:=by
    rcases lt_or_ge (p.num.natAbs*q.den) (q.num.natAbs*p.den) with h1 | h1
    ·have:=lH.2 h1;omega
    ·exact h1
   refine qk (aI _) (aI _) (by unfold SM;omega) (by unfold SM;omega) (λhh=>by rw[ba,ba] at hh;omega) (λ_=>?_)
   simp only[ba]
   have l4:=cX (sub_le (p.num.natAbs*q.den) (q.num.natAbs*p.den))
   refine eG (aI _) (aI _) om om (by rw[ba];exact hd) ?_
   rw[ba,ba,um hs hle]
   exact h
  ·have hle:p.num.natAbs*q.den<=q.num.natAbs*p.den:=by
    rcases lt_or_ge (p.num.natAbs*q.den) (q.num.natAbs*p.den) with h1 | h1
    ·omega
    ·exfalso
     apply hc
     unfold ou
     split
     ·omega
     ·split<;>omega
   refine qk (aI _) (aI _) (by unfold SM;omega) (by unfold SM;omega) (λhh=>by rw[ba,ba] at hh;omega) (λ_=>?_)
   simp only[ba]
   have l4:=cX (sub_le (q.num.natAbs*p.den) (p.num.natAbs*q.den))
   refine eG (aI _) (aI _) om om (by rw[ba];exact hd) ?_
   rw[ba,ba,um (λe=>hs e.symm) hle,add_comm]
   exact h
theorem vg {a b:GRat} {k l:Nat} {Q:GRat->Prop} (fa:Fr a) (fb:Fr b) (ka:RB k (bB a)) (kb:RB l (bB b)) (hk:k+l+1<=35184372088000) (h:Q (bm (bB a*bB b))):dl a b Q:=by
 refine dK fa (dK fb ?_)
 generalize bB a=p at ka h ⊢
 generalize bB b=q at kb h ⊢
 have la:=nu ka
 have lb:=nu kb
 have l1:=kq ka.1 kb.1
 have l3:=kq ka.2 kb.2
 have hd:p.den*q.den≠0:=mul_ne_zero p.den_nz q.den_nz
 refine fH (aI _) (aI _) om (fH (aI _) (aI _) om ?_)
 simp only[ba]
 refine eG (aI _) (aI _) om om (by rw[ba];exact hd) ?_
 rw[ba,ba,<-Eg]
 exact h
theorem vk {a b:GRat} {k l:Nat} {Q:GRat->Option Int->Prop} (fa:Fr a) (fb:Fr b) (ka:RB k (bB a)) (kb:RB l (bB b)) (hk:k+l+1<=35184372088000)
  (h0:bB b=0->Q (bm 0) (some 8)) (h:bB b≠0->Q (bm (bB a / bB b)) none):gW a b Q:=by
 refine dK fa (dK fb ?_)
 generalize bB a=p at ka h ⊢
 generalize bB b=q at kb h h0 ⊢
 have la:=nu ka
 have lb:=nu kb
 have l1:=kq ka.1 kb.2
 have l3:=kq ka.2 kb.1
 refine bV (λhc=>?_) (λhc=>?_)
 ·rw[jF] at hc
  exact h0 (Rat.num_eq_zero.1 om)
 ·have hq:q.num≠0:=λhh=>hc (jF.2 om)
  have hd:p.den*q.num.natAbs≠0:=mul_ne_zero p.den_nz om
  refine fH (aI _) (aI _) om (fH (aI _) (aI _) om ?_)
  simp only[ba]
  refine eG (aI _) (aI _) om om (by rw[ba];exact hd) ?_
  rw[ba,ba,<-Aa p hq]
  exact h (λhh=>hq (by rw[hh];rfl))
theorem vf {a:GRat} {k:Nat} {Q:GRat->Prop} (fa:Fr a) (ka:RB k (bB a)) (hk:k<=35184372088000) (h:Q (bm (-bB a))):l8 a Q:=by
 refine dK fa ?_
 generalize bB a=p at ka h ⊢
 have la:=nu ka
 refine eG (aI _) (aI _) om om (by rw[ba];exact p.den_nz) ?_
 rw[ba,ba,<-zL]
 exact h
theorem ve {a b:GRat} {k l:Nat} {Q:GRat->Prop} (fa:Fr a) (fb:Fr b) (ka:RB k (bB a)) (kb:RB l (bB b)) (hk:k+l+1<=35184372088000) (h:Q (bm (bB a-bB b))):d6 a b Q:=by
 refine⟨_,vf fb kb om rfl,_,pd fa (pC (wC kb) om) ka (by rw[eD];exact wC kb) hk rfl,?_⟩
 rw[eD,<-Rat.sub_eq_add_neg]
 exact h
def p7 (q:Rat):Int:=if q.num=0 then 0 else if q.num<0 then -1 else 1
theorem tY {n:Int} {Q:List Int->Prop} (hn:rng n) (h:Q (lim n.natAbs)):kN n Q:=by
 refine bV (λhc=>?_) (λhc=>?_)
 ·subst hc
  have:lim (Int.natAbs (-9223372036854775808))=[0,2147483648]:=by
   rw[show Int.natAbs (-9223372036854775808)=9223372036854775808 from rfl,gg om,gg om]
   simp[dr]
  rw[this] at h
  exact h
 ·unfold rng at hn ⊢
  refine⟨om,rE om ?_⟩
  have:(max n (-n)).toNat=n.natAbs:=om
  rw[this]
  exact h
theorem qi {n:Int} {Q:GRat->Prop} (hn:rng n) (h:Q (bm (n:Rat))):dW n Q:=by
 refine tY hn ?_
 show cS _ _ [1] _
 have hl:(lim n.natAbs).length<=64 / 32+1:=gh (by unfold rng at hn;omega)
 refine eG (aI _) xM om zSm (by rw[xN];omega) ?_
 rw[ba,xN,qw,show mkRat n 1=(n:Rat) from Rat.mkRat_self (n:Rat)]
 exact h
theorem ri {neg:Bool} {num den:List Int} {Q:GRat->Int->Prop} (hn:Words num) (hd:Words den) (ln:num.length<=1099511627760) (ld:den.length<=1099511627760)
  (h8:val den=0->Q (bm 0) 8) (h:val den≠0->Q (bm (mkRat (sgn neg (val num)) (val den))) 0):gd neg num den Q:=by
 refine oa hd (by unfold SM;omega) (bV (λhc=>?_) (λhc=>?_))
 ·exact h8 (iz.1 hc)
 have h0:val den≠0:=λhh=>hc (iz.2 hh)
 replace h:=h h0
 refine oa hn (by unfold SM;omega) (bV (λhc=>?_) (λhc=>?_))
 ·rw[iz] at hc
  rw[hc,sG] at h
  exact h
 ·have hn0:val num≠0:=λhh=>hc (iz.2 hh)
  rw[vp hn0 h0] at h
  have hgp:gcd (val num) (val den)≠0:=Nat.ne_of_gt (Nat.gcd_pos_of_pos_left _ om)
  refine tF hn hd om om ?_
  have hgl:(lim (gcd (val num) (val den))).length<=1099511627760:=by
   refine le_trans (cX (Nat.gcd_le_left _ om)) (le_trans (dM hn) ln)
  refine o_ hn (aI _) om om (λhh=>absurd (by rwa[ba] at hh) hgp) (λ_=>?_)
  refine o_ hd (aI _) om om (λhh=>absurd (by rwa[ba] at hh) hgp) (λ_=>?_)
  rw[ba]
  exact h
theorem kh {neg:Bool} {num den:List Int} {Q:GRat->Int->Prop} (hn:Words num) (hd:Words den) (ln:num.length<=1099511627760) (ld:den.length<=1099511627760)
  (h0:val den≠0) (h:Q (bm (mkRat (sgn neg (val num)) (val den))) 0):gd neg num den Q:=
 ri hn hd ln ld (λhh=>absurd hh h0) (λ_=>h)
theorem EJ {n:Nat}:((cc n:Int) == 1)=decide (n=1):=by
 have h:(cc n:Int)=1↔n=1:=by
  constructor
  ·intro h
   have a:=pU (n:=n)
   rw[show cc n=1 by omega] at a
   have:n≠0:=by rintro rfl;rw[xJ] at h;omega
   omega
  ·rintro rfl;rfl
 by_cases hn:n=1
 ·rw[decide_eq_true hn];simpa using h.2 hn
 ·rw[decide_eq_false hn];simpa using λe=>hn (h.1 e)
theorem qf {a:GRat} {Q:Bool->Prop} (fa:Fr a) (h:Q (okR a)):iN a Q:=by
 obtain⟨hn,hd,ln,ld⟩:=fa
 rw[BI hn hd] at h
 have hpb:∀l:List Int,l.length≠0->l.length<=1099511627760->rng ((l.length:Int)-1)/\((0:Int)<=((l.length:Int)-1)/\((l.length:Int)-1)<(l.length:Int))/\gY l=(at' l ((l.length:Int)-1) != 0):=λl hl hl2=>by
  have:(l.length:Int)-1=((l.length-1:Nat):Int):=om
  refine⟨zRg,om,?_⟩
  rw[this,gH]
  simp only[gY]
  rw[decide_eq_true (by omega:0<l.length),Bool.true_and]
 have hpn:∀l:List Int,l.length=0->gY l=false:=λl hl=>by
  simp only[gY]
  rw[decide_eq_false (by omega:¬0<l.length),Bool.false_and]
 refine⟨λx=>x=decide (a.J.length=0\/a.L.length=0),?_,?_⟩
 ·refine bV (λhc=>?_) (λhc=>?_)
  ·rw[decide_eq_true om]
  ·by_cases hd0:a.L.length=0
   ·rw[decide_eq_true om];simp;exact eq_nil_of_length_eq_zero hd0
   ·rw[decide_eq_false om];simp;intro hh;exact hd0 (by rw[hh];rfl)
 ·rintro _ rfl
  refine condT (λhc=>?_) (λhc=>?_)
  ·refine bV (λh1=>bV (λh2=>?_) (λh2=>?_)) (λh1=>?_)
   ·rw[if_pos om] at h;exact h
   ·rw[if_neg om,hpn _ (by omega:a.J.length=0),Bool.false_and] at h;exact h
   ·rw[if_neg om,hpn a.L om,Bool.false_and,Bool.and_false] at h;exact h
  ·obtain⟨r1,r2,r3⟩:=hpb a.J om ln
   obtain⟨s1,s2,s3⟩:=hpb a.L om ld
   rw[if_neg om] at h
   refine⟨r1,r2,?_⟩
   rw[<-r3]
   refine bf (λhp=>⟨s1,s2,?_⟩) (λhp=>?_)
   ·rw[hp,Bool.true_and] at h
    rw[<-s3]
    refine bf (λhq=>?_) (λhq=>?_)
    ·rw[hq,Bool.true_and] at h
     refine tF hn hd om om ?_
     have hgl:(lim (gcd (val a.J) (val a.L))).length<=1099511627760:=by
      refine le_trans (cX (Nat.gcd_le_left _ ?_)) (le_trans (dM hn) ln)
      have:=(pL hn hp).2
      omega
     refine oa (aI _) (by unfold SM;omega) ?_
     rw[ba,EJ]
     exact h
    ·rw[hq,Bool.false_and] at h;exact h
   ·rw[hp,Bool.false_and] at h;exact h
theorem kg {a:GRat} {Q:Bool->List Int->List Int->Prop} (fa:Fr a) (h:Q (decide ((bB a).num<0)) (lim (bB a).num.natAbs) (lim (bB a).den)):gC a Q:=by
 refine⟨λx=>x=(!okR a || decide (a.J.length=0)),?_,?_⟩
 ·refine qf fa (bf (λhc=>?_) (λhc=>?_))
  ·rw[hc];rfl
  ·have hc:okR a=true:=by simpa using hc
   rw[hc,Bool.not_true,Bool.false_or]
   by_cases hl:a.J.length=0
   ·rw[decide_eq_true hl];simp;exact eq_nil_of_length_eq_zero hl
   ·rw[decide_eq_false hl];simp;intro hh;exact hl (by rw[hh];rfl)
 ·rintro _ rfl
  refine bf (λhc=>?_) (λhc=>?_)
  ·have hz:bB a=0:=vv (λho=>by rw[ho] at hc;simpa using hc)
   rw[hz] at h
   simp at h
   rw[dr,GB] at h
   exact h
  ·simp at hc
   obtain⟨_,e⟩:=vz hc.1 (λhl=>hc.2 (eq_nil_of_length_eq_zero hl))
   rw[show a.Y=decide ((bB a).num<0) from by rw[e];simp[<-e],show a.J=lim (bB a).num.natAbs from by rw[e];simp[<-e],show a.L=lim (bB a).den from by rw[e];simp[<-e]]
   exact h
theorem zt {a b:GRat} {k l:Nat} {Q:GRat->Prop} (fa:Fr a) (fb:Fr b) (ka:RB k (bB a)) (kb:RB l (bB b)) (hk:k+l+1<=35184372088000) (h:Q (bm (bB a+bB b))):o9 a b Q:=by
 refine kg fa (kg fb ?_)
 generalize bB a=p at ka h ⊢
 generalize bB b=q at kb h ⊢
 have la:=nu ka
 have lb:=nu kb
 have l1:=kq ka.1 kb.2
 have l2:=kq kb.1 ka.2
 have l3:=kq ka.2 kb.2
 have hd:p.den*q.den≠0:=mul_ne_zero p.den_nz q.den_nz
 refine mI (aI _) (aI _) om (mI (aI _) (aI _) om (mI (aI _) (aI _) om ?_))
 simp only[ba]
 rw[Al] at h
 refine bV (λhs=>?_) (λhs=>?_)
 ·refine zu (aI _) (aI _) ⟨om,om⟩ ?_
  simp only[ba]
  have l4:(lim (p.num.natAbs*q.den+q.num.natAbs*p.den)).length<=(k+l+1) / 32+1:=Ci (eR ka.1 kb.2) (by rw[Nat.add_comm k];exact eR kb.1 ka.2)
  refine kh (aI _) (aI _) om om (by rw[ba];exact hd) ?_
  rw[ba,ba,Bu]
  rw[<-hs] at h
  exact h
 ·refine Ei (pb (aI _) (aI _) (by unfold SM;omega) (by unfold SM;omega) ?_)
  simp only[ba]
  refine condT (λhc=>?_) (λhc=>?_)
  ·have hlt:p.num.natAbs*q.den<q.num.natAbs*p.den:=lH.1 hc
   refine mH (aI _) (aI _) (by unfold SM;omega) (by unfold SM;omega) (λhh=>by rw[ba,ba] at hh;omega) (λ_=>?_)
   simp only[ba]
   have l4:=cX (sub_le (q.num.natAbs*p.den) (p.num.natAbs*q.den))
   refine kh (aI _) (aI _) om om (by rw[ba];exact hd) ?_
   rw[ba,ba,um (λe=>hs e.symm) om,add_comm]
   exact h
  ·have hle:q.num.natAbs*p.den<=p.num.natAbs*q.den:=by
    rcases lt_or_ge (p.num.natAbs*q.den) (q.num.natAbs*p.den) with h1 | h1
    ·exact absurd (lH.2 h1) hc
    ·exact h1
   refine mH (aI _) (aI _) (by unfold SM;omega) (by unfold SM;omega) (λhh=>by rw[ba,ba] at hh;omega) (λ_=>?_)
   simp only[ba]
   have l4:=cX (sub_le (p.num.natAbs*q.den) (q.num.natAbs*p.den))
   refine kh (aI _) (aI _) om om (by rw[ba];exact hd) ?_
   rw[ba,ba,um hs hle]
   exact h
theorem zr {a:GRat} {k:Nat} {Q:GRat->Prop} (fa:Fr a) (ka:RB k (bB a)) (hk:k<=35184372088000) (h:Q (bm (-bB a))):o7 a Q:=by
 refine kg fa ?_
 generalize bB a=p at ka h ⊢
 have la:=nu ka
 refine kh (aI _) (aI _) om om (by rw[ba];exact p.den_nz) ?_
 rw[ba,ba,<-zL]
 exact h
theorem zq {a b:GRat} {k l:Nat} {Q:GRat->Prop} (fa:Fr a) (fb:Fr b) (ka:RB k (bB a)) (kb:RB l (bB b)) (hk:k+l+1<=35184372088000) (h:Q (bm (bB a-bB b))):o5 a b Q:=by
 refine⟨_,zr fb kb om rfl,_,zt fa (pC (wC kb) om) ka (by rw[eD];exact wC kb) hk rfl,?_⟩
 rw[eD,<-Rat.sub_eq_add_neg]
 exact h
theorem rb {a:GRat} {Q:Int->Prop} (fa:Fr a) (h:Q (p7 (bB a))):il a Q:=by
 refine kg fa ?_
 generalize bB a=p at h ⊢
 unfold p7 at h
 refine bV (λhc=>?_) (λhc=>?_)
 ·rw[jF] at hc
  rw[if_pos om] at h;exact h
 ·have hq:p.num≠0:=λhh=>hc (jF.2 om)
  rw[if_neg hq] at h
  refine condT (λhs=>?_) (λhs=>?_)
  ·rw[if_pos hs] at h;exact h
  ·rw[if_neg hs] at h;exact h
theorem zs {a b:GRat} {k l:Nat} {Q:Int->Prop} (fa:Fr a) (fb:Fr b) (ka:RB k (bB a)) (kb:RB l (bB b)) (hk:k+l+1<=35184372088000) (h:Q (p7 (bB a-bB b))):gU a b Q:=by
 refine zq fa fb ka kb hk (rb (pC (Bd ka kb) hk) ?_)
 rw[eD]
 exact h
theorem ra {n:Int} {Q:List Int->Prop} (hn:rng n) (h:∀l,Words l->l.length=2->val l=n.natAbs->Q l):ls n Q:=by
 unfold rng at hn
 refine Ei ?_
 have key:∀u:Int,u=n.natAbs->Q [(wrap .u32 u),(wrap .u32 (u / 2^(toNat 32)))]:=by
  intro u hu
  rw[wrap_u32,wrap_u32]
  have h32:(2:Int)^(toNat 32)=4294967296:=rfl
  rw[h32]
  have hw2:Words [u / 4294967296 % 4294967296]:=Words.one om om
  have hw:Words [u % 4294967296,u / 4294967296 % 4294967296]:=by
   intro i
   match i with
   | 0=>simp;omega
   | 1=>simp;omega
   | i+2=>simp
  refine h _ hw rfl ?_
  rw[ky hw,ky hw2,nT]
  omega
 refine condT (λhc=>iP ?_) (λhc=>?_)
 ·rw[oT,oT]
  exact key _ om
 ·rw[oT]
  exact key _ om
theorem rh {n d:Int} {Q:GRat->Int->Prop} (hn:rng n) (hd:rng d) (h0:d=0->Q (bm 0) 8) (h:d≠0->Q (bm ((n:Rat) / (d:Rat))) 0):lx n d Q:=by
 refine ra hn λl1 w1 e1 v1=>ra hd λl2 w2 e2 v2=>?_
 refine ri w1 w2 om om (λhz=>?_) (λhz=>?_)
 ·exact h0 om
 ·rw[v1,v2]
  have hd0:d≠0:=om
  have e:=Aa (n:Rat) (q:=(d:Rat)) (by simpa using hd0)
  simp only[Rat.num_intCast,Rat.den_intCast,mul_one,Nat.one_mul] at e
  have h2:=h hd0
  rw[e] at h2
  exact h2
theorem AG {n:Int} {Q:GRat->Prop} (hn:rng n) (h:Q (bm (n:Rat))):n9 n Q:=by
 refine rh hn zRg (λhh=>absurd hh om) (λ_=>?_)
 have:(n:Rat) / ((1:Int):Rat)=n:=by
  rw[Rat.div_def]
  show(n:Rat)*(1:Rat)⁻¹=n
  rw[show(1:Rat)⁻¹=1 from(Rat.mul_one _).symm.trans (Rat.inv_mul_cancel 1 (by decide)),Rat.mul_one]
 rw[this]
 exact h
theorem tM {α:Type} [Inhabited α] {l m:List α} (hl:l.length=m.length) (h:∀i:Nat,i<l.length->at' l (i:Int)=at' m (i:Int)):l=m:=by
 refine List.ext_getElem hl λi h1 h2=>?_
 have:=h i h1
 simp only[at',toNat_natCast,List.getD_eq_getElem?_getD,List.getElem?_eq_getElem h1,List.getElem?_eq_getElem h2,Option.getD_some] at this
 exact this
instance decGRat:DecidableEq GRat:=λ_ _=>decidable_of_iff _ r_
theorem si {a b:List Int} {Q:Bool->Prop} (la:a.length<=1099511627776) (h:Q (decide (a=b))):lI a b Q:=by
 refine fJ (λhc=>?_) (λhc=>?_)
 ·rw[decide_eq_false (λe=>hc (by rw[e]))] at h;exact h
 ·have hl:a.length=b.length:=om
  refine⟨λx=>∃i:Nat,x=i/\i<=a.length/\∀j:Nat,j<i->at' a (j:Int)=at' b (j:Int),λx=>a.length-x.toNat,⟨0,rfl,om,λj hj=>absurd hj om⟩,?_⟩
  rintro _ ⟨i,rfl,hi,hI⟩
  refine condT (λhc=>⟨⟨om,hc⟩,⟨om,om⟩,fJ (λhne=>?_) (λhe=>⟨zRg,⟨i+1,om,om,λj hj=>?_⟩,by dsimp only;omega⟩)⟩) (λhc=>?_)
  ·rw[decide_eq_false (λe=>hne (by rw[e]))] at h;exact h
  ·rcases lt_or_ge j i with h1 | h1
   ·exact hI j h1
   ·obtain rfl:j=i:=om
    exact he
  ·rw[decide_eq_true (tM hl (λj hj=>hI j om))] at h;exact h
theorem wv {a b:GRat} {Q:Bool->Prop} (la:a.J.length<=1099511627776) (ld:a.L.length<=1099511627776) (h:Q (decide (a=b))):oz a b Q:=by
 obtain⟨n,x,y⟩:=a
 obtain⟨n',x',y'⟩:=b
 refine bV (λh1=>?_) (λh1=>?_)
 ·refine si la (condT (λh2=>?_) (λh2=>?_))
  ·refine si ld ?_
   dsimp only at h1 h2 ⊢
   subst h1 h2
   by_cases h3:y=y'
   ·subst h3;rw[decide_eq_true rfl] at h ⊢;exact h
   ·rw[decide_eq_false h3];rw[decide_eq_false (λe=>h3 (by injection e))] at h;exact h
  ·rw[decide_eq_false (λe=>h2 (by injection e))] at h;exact h
 ·rw[decide_eq_false (λe=>h1 (by injection e))] at h;exact h
theorem Ah {a b:List GRat} {Q:Bool->Prop} (la:a.length<=1099511627776) (hs:∀i:Nat,i<a.length->(at' a (i:Int)).J.length<=1099511627776/\(at' a (i:Int)).L.length<=1099511627776)
  (h:Q (decide (a=b))):mR a b Q:=by
 refine fJ (λhc=>?_) (λhc=>?_)
 ·rw[decide_eq_false (λe=>hc (by rw[e]))] at h;exact h
 ·have hl:a.length=b.length:=om
  refine⟨λx=>∃i:Nat,x=i/\i<=a.length/\∀j:Nat,j<i->at' a (j:Int)=at' b (j:Int),λx=>a.length-x.toNat,⟨0,rfl,om,λj hj=>absurd hj om⟩,?_⟩
  rintro _ ⟨i,rfl,hi,hI⟩
  refine condT (λhc=>⟨⟨om,hc⟩,⟨om,om⟩,_,wv (hs i om).1 (hs i om).2 rfl,bf (λhne=>?_) (λhe=>⟨zRg,⟨i+1,om,om,λj hj=>?_⟩,by dsimp only;omega⟩)⟩) (λhc=>?_)
  ·rw[Bool.not_eq_true',decide_eq_false_iff_not] at hne
   rw[decide_eq_false (λe=>hne (by rw[e]))] at h;exact h
  ·rw[Bool.not_eq_false',decide_eq_true_iff] at he
   rcases lt_or_ge j i with h1 | h1
   ·exact hI j h1
   ·obtain rfl:j=i:=om
    exact he
  ·rw[decide_eq_true (tM hl (λj hj=>hI j om))] at h;exact h
theorem wu {a:List GRat} {Q:Bool->Prop} (la:a.length<=1099511627776) (hs:∀i:Nat,i<a.length->(at' a (i:Int)).J.length<=1099511627776/\(at' a (i:Int)).L.length<=1099511627776)
  (h:Q true):mR a a Q:=Ah la hs (by rw[decide_eq_true rfl];exact h)
def my (e:Int):Option Int:=if e=0 then none else some e
def Rp (k:Nat) (a:GRat) (q:Rat):Prop:=Fr a/\bB a=q/\RB k q
def WrR (a:GRat):Prop:=Words a.J/\Words a.L
def WrL (l:List GRat):Prop:=∀i:Nat,i<l.length->WrR (at' l (i:Int))
abbrev cap:Nat:=35184372088000
theorem Rp.of {q:Rat} {k:Nat} (h:RB k q) (hk:k<=cap):Rp k (bm q) q:=⟨pC h hk,eD q,h⟩
theorem Rp.mono {a:GRat} {q:Rat} {k l:Nat} (h:Rp k a q) (hkl:k<=l):Rp l a q:=⟨h.1,h.2.1,h.2.2.mono hkl⟩
theorem Rp.self {a:GRat} {k:Nat} (h:Fr a) (hb:RB k (bB a)):Rp k a (bB a):=⟨h,rfl,hb⟩
theorem Rp.len {a:GRat} {q:Rat} {k:Nat} (h:Rp k a q):a.J.length<=1099511627776/\a.L.length<=1099511627776:=⟨le_trans h.1.2.2.1 om,le_trans h.1.2.2.2 om⟩
theorem Rp.zero {k:Nat} (hk:1<=k) (hk2:k<=cap):Rp k (⟨false,[],[]⟩:GRat) 0:=.of (pX k hk) hk2
theorem tl {n:Int} (hn:rng n):RB 64 (n:Rat):=oB om (by unfold rng at hn;omega)
theorem DH {q:Rat}:p7 q<0↔q<0:=by
 unfold p7
 have h1:q.num<0↔q<0:=by
  have:=Rat.num_nonneg (q:=q)
  rw[<-Int.not_le,this,Rat.not_le]
 split
 ·rename_i h;rw[h] at h1;simpa using h1
 ·split
  ·rename_i h;simpa using h1.1 h
  ·rename_i h;simpa using λhh=>h (h1.2 hh)
theorem Fi {q:Rat}:p7 q=0↔q=0:=by
 unfold p7
 constructor
 ·intro h
  split at h
  ·rename_i h0;exact Rat.num_eq_zero.1 h0
  ·split at h<;>omega
 ·rintro rfl;rfl
theorem oX {q:Rat}:0<=p7 q↔0<=q:=by rw[<-Int.not_lt,DH,Rat.not_lt]
theorem DG {q:Rat}:0<p7 q↔0<q:=by
 have h1:=@oX q
 have h2:=@Fi q
 constructor
 ·intro h
  have h3:=h1.1 om
  rcases Rat.le_iff_lt_or_eq.1 h3 with h4 | h4
  ·exact h4
  ·have:=h2.2 h4.symm;omega
 ·intro h
  have h3:=h1.2 (Rat.le_of_lt h)
  have h4:p7 q≠0:=λe=>by rw[h2.1 e] at h;exact Rat.lt_irrefl h
  omega
theorem zl {q:Rat}:p7 q<=0↔q<=0:=by rw[<-Int.not_lt,DG,Rat.not_lt]
theorem zd {p q:Rat}:p-q<=0↔p<=q:=by constructor<;>intro h<;>grind
theorem GL {a b:GRat} {p q:Rat} {k l:Nat} {Q:GRat->Prop} (ha:Rp k a p) (hb:Rp l b q) (hk:k+l+1<=cap) (h:Rp (k+l+1) (bm (p+q)) (p+q)->Q (bm (p+q))):d7 a b Q:=by
 obtain⟨fa,rfl,ka⟩:=ha
 obtain⟨fb,rfl,kb⟩:=hb
 exact pd fa fb ka kb hk (h (.of (Be ka kb) hk))
theorem ES {a b:GRat} {p q:Rat} {k l:Nat} {K:GRat->Prop} (ha:Rp k a p) (hb:Rp l b q) (hk:k+l+1<=cap) (h:Rp (k+l+1) (bm (p+q)) (p+q)->K (bm (p+q))):ee (d7 a b) K:=
 ⟨_,GL ha hb hk (λ_=>rfl),h (.of (Be ha.2.2 hb.2.2) hk)⟩
theorem Gt {a b:GRat} {p q:Rat} {k l:Nat} {Q:GRat->Prop} (ha:Rp k a p) (hb:Rp l b q) (hk:k+l+1<=cap) (h:Rp (k+l+1) (bm (p-q)) (p-q)->Q (bm (p-q))):d6 a b Q:=by
 obtain⟨fa,rfl,ka⟩:=ha
 obtain⟨fb,rfl,kb⟩:=hb
 exact ve fa fb ka kb hk (h (.of (Bd ka kb) hk))
theorem AA {a b:GRat} {p q:Rat} {k l:Nat} {K:GRat->Prop} (ha:Rp k a p) (hb:Rp l b q) (hk:k+l+1<=cap) (h:Rp (k+l+1) (bm (p-q)) (p-q)->K (bm (p-q))):ee (d6 a b) K:=
 ⟨_,Gt ha hb hk (λ_=>rfl),h (.of (Bd ha.2.2 hb.2.2) hk)⟩
theorem GA {a b:GRat} {p q:Rat} {k l:Nat} {Q:GRat->Prop} (ha:Rp k a p) (hb:Rp l b q) (hk:k+l+1<=cap) (h:Rp (k+l) (bm (p*q)) (p*q)->Q (bm (p*q))):dl a b Q:=by
 obtain⟨fa,rfl,ka⟩:=ha
 obtain⟨fb,rfl,kb⟩:=hb
 exact vg fa fb ka kb hk (h (.of (yM ka kb) (by simp only[cap] at hk ⊢;omega)))
theorem AQ {a b:GRat} {p q:Rat} {k l:Nat} {K:GRat->Prop} (ha:Rp k a p) (hb:Rp l b q) (hk:k+l+1<=cap) (h:Rp (k+l) (bm (p*q)) (p*q)->K (bm (p*q))):ee (dl a b) K:=
 ⟨_,GA ha hb hk (λ_=>rfl),h (.of (yM ha.2.2 hb.2.2) (by simp only[cap] at hk ⊢;omega))⟩
theorem GF {a b:GRat} {p q:Rat} {k l:Nat} {Q:GRat->Option Int->Prop} (ha:Rp k a p) (hb:Rp l b q) (hk:k+l+1<=cap) (h0:q=0->Q (bm 0) (some 8)) (h:q≠0->Rp (k+l) (bm (p / q)) (p / q)->Q (bm (p / q)) none):gW a b Q:=by
 obtain⟨fa,rfl,ka⟩:=ha
 obtain⟨fb,rfl,kb⟩:=hb
 exact vk fa fb ka kb hk h0 (λhn=>h hn (.of (tm ka kb) (by simp only[cap] at hk ⊢;omega)))
theorem HO {a b:GRat} {p q:Rat} {k l:Nat} {K:GRat->Option Int->Prop} (ha:Rp k a p) (hb:Rp l b q) (hk:k+l+1<=cap) (hq:q≠0) (h:Rp (k+l) (bm (p / q)) (p / q)->K (bm (p / q)) none):EA (gW a b) K:=
 ⟨_,_,GF ha hb hk (λe=>absurd e hq) (λ_ _=>⟨rfl,rfl⟩),h (.of (tm ha.2.2 hb.2.2) (by simp only[cap] at hk ⊢;omega))⟩
theorem Hq {n:Int} {Q:GRat->Prop} (hn:rng n) (h:Rp 64 (bm (n:Rat)) (n:Rat)->Q (bm (n:Rat))):dW n Q:=qi hn (h (.of (tl hn) (by decide)))
theorem Iu {n:Int} {K:GRat->Prop} (hn:rng n) (h:Rp 64 (bm (n:Rat)) (n:Rat)->K (bm (n:Rat))):ee (dW n) K:=⟨_,qi hn rfl,h (.of (tl hn) (by decide))⟩
theorem Hb {a:GRat} {p:Rat} {k:Nat} {Q:Int->Prop} (ha:Rp k a p) (h:Q (p7 p)):il a Q:=by
 obtain⟨fa,rfl,ka⟩:=ha
 exact rb fa h
theorem Fg {a:GRat} {p:Rat} {k:Nat} {K:Int->Prop} (ha:Rp k a p) (h:K (p7 p)):ee (il a) K:=⟨_,Hb ha rfl,h⟩
theorem GG {a b:GRat} {p q:Rat} {k l:Nat} {Q:Int->Prop} (ha:Rp k a p) (hb:Rp l b q) (hk:k+l+1<=cap) (h:Q (p7 (p-q))):gU a b Q:=by
 obtain⟨fa,rfl,ka⟩:=ha
 obtain⟨fb,rfl,kb⟩:=hb
 exact zs fa fb ka kb hk h
theorem HR {a b:GRat} {p q:Rat} {k l:Nat} {K:Int->Prop} (ha:Rp k a p) (hb:Rp l b q) (hk:k+l+1<=cap) (h:K (p7 (p-q))):ee (gU a b) K:=⟨_,GG ha hb hk rfl,h⟩
theorem It {n:Int} {K:GRat->Prop} (hn:rng n) (h:Rp 64 (bm (n:Rat)) (n:Rat)->K (bm (n:Rat))):ee (n9 n) K:=⟨_,AG hn rfl,h (.of (tl hn) (by decide))⟩
theorem Do {a:GRat} {K:Bool->Prop} (fa:Fr a) (h:K (okR a)):ee (iN a) K:=⟨_,qf fa rfl,h⟩
def e7 (a:GRat):Bool:=okR a && (decide (0<=bB a) && decide (bB a<=1))
theorem qE {q:Rat}:q<=1↔q.num<=(q.den:Int):=by
 rw[Rat.le_iff]
 simp
theorem kO {a:GRat} {Q:Bool->Prop} (fa:Fr a) (h:Q (e7 a)):gn a Q:=by
 refine nC fa (bf (λhc=>?_) (λhc=>?_))
 ·unfold e7 at h
  rw[hc,Bool.true_and] at h
  have e:=sJ hc
  generalize bB a=q at e h
  subst e
  by_cases hz:q.num=0
  ·have hq:q=0:=Rat.num_eq_zero.1 hz
   subst hq
   refine bf (λ_=>gD (a:=[]) (b:=[]) (λi=>by simp) (λi=>by simp) zSm zSm ?_) (λhh=>by cases hh)
   exact h
  ·have e2:bm q=⟨decide (q.num<0),lim q.num.natAbs,lim q.den⟩:=by unfold bm;rw[if_neg hz]
   rw[e2] at fa ⊢
   refine bf (λhn=>?_) (λhn=>?_)
   ·simp only[Bool.not_eq_true',decide_eq_false_iff_not] at hn
    refine gD fa.1 fa.2.1 (le_trans fa.2.2.1 om) (le_trans fa.2.2.2 om) ?_
    have e3:(decide (0<=q) && decide (q<=1))=decide (ou (val (lim q.num.natAbs)) (val (lim q.den))<=0):=by
     rw[ba,ba,decide_eq_true (Rat.num_nonneg.1 om),Bool.true_and]
     refine decide_eq_decide.2 ?_
     rw[qE]
     have:=@yC q.num.natAbs q.den
     omega
    rw[e3] at h
    exact h
   ·simp only[Bool.not_eq_false',decide_eq_true_eq] at hn
    rw[decide_eq_false (λhh=>by have:=Rat.num_nonneg.2 hh;omega),Bool.false_and] at h
    exact h
 ·unfold e7 at h
  rw[hc,Bool.false_and] at h
  exact h
theorem rc {a:GRat} {k:Nat} {Q:Bool->Prop} (fa:Fr a) (ka:RB k (bB a)) (hk:k+65<=cap) (h:Q (e7 a)):lw a Q:=by
 unfold e7 at h
 refine Do fa (bf (λhc=>?_) (λhc=>?_))
 ·rw[hc,Bool.true_and] at h
  refine Fg (.self fa ka) (condT (λh0=>?_) (λh0=>?_))
  ·rw[decide_eq_true (oX.1 h0),Bool.true_and] at h
   refine It zRg λh1=>HR (.self fa ka) h1 (by simp only[cap] at hk ⊢;omega) ?_
   have e:decide (p7 (bB a-((1:Int):Rat))<=0)=decide (bB a<=1):=decide_eq_decide.2 (by rw[zl];exact zd)
   rw[e];exact h
  ·rw[decide_eq_false (λhh=>h0 (oX.2 hh)),Bool.false_and] at h
   exact h
 ·rw[hc,Bool.false_and] at h
  exact h
abbrev Asg:=Nat->Bool
def cE (σ:Asg) (v:Nat) (b:Bool):Asg:=λi=>if i=v then b else σ i
theorem fN {σ:Asg} {v:Nat} {b:Bool}:cE σ v b v=b:=by simp[cE]
theorem gI {σ:Asg} {v i:Nat} {b:Bool} (h:i≠v):cE σ v b i=σ i:=by simp[cE,h]
theorem un {σ:Asg} {v:Nat}:cE σ v (σ v)=σ:=by
 funext i
 by_cases h:i=v
 ·subst h;exact fN
 ·exact gI h
theorem Bs {α:Type} {P:List α->Prop} (h0:P []) (h1:∀l x,P l->P (l++[x])) (l:List α):P l:=by
 have h:∀m:List α,P m.reverse:=by
  intro m
  induction m with
  | nil=>exact h0
  | cons x m ih=>rw[List.reverse_cons];exact h1 _ _ ih
 have:=h l.reverse
 rwa[List.reverse_reverse] at this
def z_ (N:List GDNode) (σ:Asg):List Bool:=N.foldl (λacc x=>acc++[bif σ x.H.toNat then acc.getD x.X.toNat false else acc.getD x.W.toNat false]) [false,true]
def den (N:List GDNode) (σ:Asg) (r:Nat):Bool:=(z_ N σ).getD r false
theorem qM {N:List GDNode} {x:GDNode} {σ:Asg}:z_ (N++[x]) σ=z_ N σ++[bif σ x.H.toNat then den N σ x.X.toNat else den N σ x.W.toNat]:=by
 simp[z_,den,List.foldl_append]
theorem s8 {σ:Asg} (N:List GDNode):(z_ N σ).length=2+N.length:=by
 induction N using Bs with
 | h0=>rfl
 | h1 N x ih=>rw[qM,length_append,ih,length_append];simp;omega
theorem Ac {N:List GDNode} {x:GDNode} {σ:Asg} {r:Nat} (h:r<2+N.length):den (N++[x]) σ r=den N σ r:=by
 unfold den
 rw[qM,List.getD_eq_getElem?_getD,List.getD_eq_getElem?_getD,List.getElem?_append_left (by rw[s8];exact h)]
theorem gM {σ:Asg} {r:Nat} {N:List GDNode} (M:List GDNode) (h:r<2+N.length):den (N++M) σ r=den N σ r:=by
 induction M using Bs with
 | h0=>simp
 | h1 M x ih=>rw[<-append_assoc,Ac (by rw[length_append];omega),ih]
theorem EC {N:List GDNode} {x:GDNode} {σ:Asg}:den (N++[x]) σ (2+N.length)=bif σ x.H.toNat then den N σ x.X.toNat else den N σ x.W.toNat:=by
 conv=>lhs;unfold den
 rw[qM,List.getD_eq_getElem?_getD,List.getElem?_append_right (by rw[s8];omega),s8]
 simp
theorem wg {N:List GDNode} {i:Nat} {x:GDNode} {σ:Asg} (hx:N[i]? = some x) (hl:x.W.toNat<2+i) (hh:x.X.toNat<2+i):den N σ (2+i)=bif σ x.H.toNat then den N σ x.X.toNat else den N σ x.W.toNat:=by
 obtain⟨hi,rfl⟩:=List.getElem?_eq_some_iff.1 hx
 have hlen:(N.take i).length=i:=by simp;omega
 have e:N=(N.take i++[N[i]])++N.drop (i+1):=by simp
 have hd:∀r,r<2+i->den N σ r=den (N.take i) σ r:=λr hr=>by
  conv=>lhs;rw[e]
  rw[gM _ (by rw[length_append,hlen];omega),Ac (by rw[hlen];exact hr)]
 rw[hd _ hl,hd _ hh]
 conv=>lhs;rw[e]
 rw[gM _ (by rw[length_append,hlen];simp)]
 have:=EC (N:=N.take i) (x:=N[i]) (σ:=σ)
 rw[hlen] at this
 exact this
theorem h_ {N:List GDNode} {σ:Asg}:den N σ 0=false:=by
 have:=gM (σ:=σ) (r:=0) (N:=[]) N zSm
 exact this.trans rfl
theorem jK {N:List GDNode} {σ:Asg}:den N σ 1=true:=by
 have:=gM (σ:=σ) (r:=1) (N:=[]) N zSm
 exact this.trans rfl
def lvl (n:Nat) (lev:Nat->Nat) (N:List GDNode) (r:Nat):Nat:=if r<2 then n else match N[r-2]? with | some x=>lev x.H.toNat | none=>n
theorem i6 {n:Nat} {lev:Nat->Nat} {N:List GDNode} {r:Nat} (h:r<2):lvl n lev N r=n:=by simp[lvl,h]
theorem og {n:Nat} {lev:Nat->Nat} {N:List GDNode} {i:Nat} {x:GDNode} (h:N[i]? = some x):lvl n lev N (2+i)=lev x.H.toNat:=by
 have:¬2+i<2:=om
 simp[lvl,this,show 2+i-2=i by omega,h]
theorem rI {n:Nat} {lev:Nat->Nat} {N:List GDNode} (M:List GDNode) {r:Nat} (h:r<2+N.length):lvl n lev (N++M) r=lvl n lev N r:=by
 unfold lvl
 by_cases h2:r<2
 ·rw[if_pos h2,if_pos h2]
 ·rw[if_neg h2,if_neg h2,List.getElem?_append_left om]
structure LV (n:Nat) (lev:Nat->Nat):Prop where
 inj:∀i j,i<n->j<n->lev i=lev j->i=j
 lt:∀i,i<n->lev i<n
structure Nd (n:Nat) (lev:Nat->Nat) (N:List GDNode) (i:Nat) (x:GDNode):Prop where
 var:0<=x.H/\x.H<n
 lo:0<=x.W/\x.W<2+i
 hi:0<=x.X/\x.X<2+i
 ne:x.W≠x.X
 llo:lev x.H.toNat<lvl n lev N x.W.toNat
 lhi:lev x.H.toNat<lvl n lev N x.X.toNat
structure WT (n:Nat) (lev:Nat->Nat) (N:List GDNode):Prop where
 nd:∀(i:Nat) (x:GDNode),N[i]? = some x->Nd n lev N i x
 dis:∀(i j:Nat) (x:GDNode),N[i]? = some x->N[j]? = some x->i=j
section
variable {n:Nat} {lev:Nat->Nat} {N:List GDNode}
theorem WT.nil:WT n lev []:=⟨λi x h=>by simp at h,λi j x h=>by simp at h⟩
theorem jb {r:Nat} (h:r<2+N.length):r=0\/r=1\/∃i x,r=2+i/\N[i]? = some x:=by
 by_cases h0:r=0
 ·exact .inl h0
 by_cases h1:r=1
 ·exact .inr (.inl h1)
 ·exact .inr (.inr ⟨r-2,N[r-2]'om,om,List.getElem?_eq_getElem om⟩)
theorem WT.den_at (h:WT n lev N) {i:Nat} {x:GDNode} (hx:N[i]? = some x) (σ:Asg):den N σ (2+i)=bif σ x.H.toNat then den N σ x.X.toNat else den N σ x.W.toNat:=by
 obtain⟨_,b,c,_,_,_⟩:=h.nd i x hx
 exact wg hx om om
theorem WT.den_set (h:WT n lev N) {v:Nat} {b:Bool}:∀ {r:Nat},r<2+N.length->lev v<lvl n lev N r->∀σ,den N (cE σ v b) r=den N σ r:=by
 intro r
 induction r using Nat.strongRecOn with
 | _ r ih=>
  intro hr hv σ
  rcases jb hr with rfl | rfl | ⟨i,x,rfl,hx⟩
  ·rw[h_,h_]
  ·rw[jK,jK]
  ·obtain⟨a,b',c,_,e,f⟩:=h.nd i x hx
   have hi:=(List.getElem?_eq_some_iff.1 hx).1
   rw[og hx] at hv
   have hne:x.H.toNat≠v:=λhc=>by rw[hc] at hv;omega
   rw[h.den_at hx,h.den_at hx,gI hne,ih x.X.toNat om om om,ih x.W.toNat om om om]
theorem WT.lvl_le (hL:LV n lev) (h:WT n lev N) {r:Nat}:lvl n lev N r<=n:=by
 unfold lvl
 split
 ·exact Nat.le_refl _
 ·split
  ·rename_i x hx
   obtain⟨a,_,_,_,_,_⟩:=h.nd _ x hx
   exact Nat.le_of_lt (hL.lt _ om)
  ·exact Nat.le_refl _
theorem WT.den_cof (h:WT n lev N) {i:Nat} {x:GDNode} (hx:N[i]? = some x) (σ:Asg) (b:Bool):den N (cE σ x.H.toNat b) (2+i)=den N σ (bif b then x.X.toNat else x.W.toNat):=by
 obtain⟨_,b',c,_,e,f⟩:=h.nd i x hx
 have hi:=(List.getElem?_eq_some_iff.1 hx).1
 rw[h.den_at hx,fN]
 cases b
 ·exact h.den_set om e σ
 ·exact h.den_set om f σ
theorem WT.canon (hL:LV n lev) (h:WT n lev N) {r s:Nat} (hr:r<2+N.length) (hs:s<2+N.length) (he:∀σ,den N σ r=den N σ s):r=s:=by
 have key:∀b r s,r<b->s<b->r<2+N.length->s<2+N.length->(∀σ,den N σ r=den N σ s)->r=s:=by
  intro b
  induction b with
  | zero=>intro r s h1;omega
  | succ b ih=>
   have step:∀i x s,N[i]? = some x->2+i<b+1->s<2+N.length->lev x.H.toNat<lvl n lev N s->(∀σ,den N σ (2+i)=den N σ s)->False:=by
    intro i x s hx hib hs hl he
    obtain⟨a,b',c,d,e,f⟩:=h.nd i x hx
    have hi:=(List.getElem?_eq_some_iff.1 hx).1
    have:x.W.toNat=x.X.toNat:=ih _ _ om om om om λσ=>by
     have h1:=h.den_cof hx σ false
     have h2:=h.den_cof hx σ true
     rw[he,h.den_set hs hl] at h1 h2
     exact h1.symm.trans h2
    omega
   intro r s h1 h2 hr hs he
   rcases jb hr with rfl | rfl | ⟨i,x,rfl,hx⟩
   ·rcases jb hs with rfl | rfl | ⟨j,y,rfl,hy⟩
    ·rfl
    ·have:=he (λ_=>false);rw[h_,jK] at this;cases this
    ·exact(step j y 0 hy h2 hr (by rw[i6 om];exact hL.lt _ (by have:=(h.nd j y hy).var;omega)) (λσ=>(he σ).symm)).elim
   ·rcases jb hs with rfl | rfl | ⟨j,y,rfl,hy⟩
    ·have:=he (λ_=>false);rw[h_,jK] at this;cases this
    ·rfl
    ·exact(step j y 1 hy h2 hr (by rw[i6 om];exact hL.lt _ (by have:=(h.nd j y hy).var;omega)) (λσ=>(he σ).symm)).elim
   ·by_cases hl:lev x.H.toNat<lvl n lev N s
    ·exact(step i x s hx h1 hs hl he).elim
    ·rcases jb hs with rfl | rfl | ⟨j,y,rfl,hy⟩
     ·exact(hl (by rw[i6 om];exact hL.lt _ (by have:=(h.nd i x hx).var;omega))).elim
     ·exact(hl (by rw[i6 om];exact hL.lt _ (by have:=(h.nd i x hx).var;omega))).elim
     ·by_cases hl2:lev y.H.toNat<lvl n lev N (2+i)
      ·exact(step j y (2+i) hy h2 hr hl2 (λσ=>(he σ).symm)).elim
      ·rw[og hx] at hl2
       rw[og hy] at hl
       obtain⟨a,b',c,d,e,f⟩:=h.nd i x hx
       obtain⟨a2,b2,c2,d2,e2,f2⟩:=h.nd j y hy
       have hi:=(List.getElem?_eq_some_iff.1 hx).1
       have hj:=(List.getElem?_eq_some_iff.1 hy).1
       have hv:x.H.toNat=y.H.toNat:=hL.inj _ _ om om om
       have q1:x.W.toNat=y.W.toNat:=ih _ _ om om om om λσ=>by
        have p1:=h.den_cof hx σ false
        have p2:=h.den_cof hy σ false
        rw[hv,he] at p1
        exact p1.symm.trans p2
       have q2:x.X.toNat=y.X.toNat:=ih _ _ om om om om λσ=>by
        have p1:=h.den_cof hx σ true
        have p2:=h.den_cof hy σ true
        rw[hv,he] at p1
        exact p1.symm.trans p2
       have hxy:x=y:=by
        cases x;cases y
        simp only[GDNode.mk.injEq]
        simp only at *
        omega
       subst hxy
       rw[h.dis i j x hx hy]
 exact key (max r s+1) r s om om hr hs he
theorem WT.snoc (h:WT n lev N) {x:GDNode} (hv:0<=x.H/\x.H<n) (hlo:0<=x.W/\x.W<2+N.length) (hhi:0<=x.X/\x.X<2+N.length) (hne:x.W≠x.X) (h1:lev x.H.toNat<lvl n lev N x.W.toNat) (h2:lev x.H.toNat<lvl n lev N x.X.toNat)
  (hnew:x∉N):WT n lev (N++[x]):=by
 refine⟨λi y hy=>?_,λi j y hi hj=>?_⟩
 ·rcases lt_or_ge i N.length with hi | hi
  ·rw[List.getElem?_append_left hi] at hy
   obtain⟨a,b,c,d,e,f⟩:=h.nd i y hy
   exact⟨a,b,c,d,by rw[rI _ om];exact e,by rw[rI _ om];exact f⟩
  ·have hil:i<(N++[x]).length:=(List.getElem?_eq_some_iff.1 hy).1
   simp only[length_append,length_singleton] at hil
   obtain rfl:i=N.length:=om
   rw[List.getElem?_append_right (Nat.le_refl _)] at hy
   simp at hy
   subst hy
   exact⟨hv,hlo,hhi,hne,by rw[rI _ om];exact h1,by rw[rI _ om];exact h2⟩
 ·have hil:i<(N++[x]).length:=(List.getElem?_eq_some_iff.1 hi).1
  have hjl:j<(N++[x]).length:=(List.getElem?_eq_some_iff.1 hj).1
  simp only[length_append,length_singleton] at hil hjl
  by_cases hi':i<N.length
  ·rw[List.getElem?_append_left hi'] at hi
   by_cases hj':j<N.length
   ·rw[List.getElem?_append_left hj'] at hj
    exact h.dis i j y hi hj
   ·obtain rfl:j=N.length:=om
    rw[List.getElem?_append_right (Nat.le_refl _)] at hj
    simp at hj
    subst hj
    exact absurd (List.mem_of_getElem? hi) hnew
  ·obtain rfl:i=N.length:=om
   rw[List.getElem?_append_right (Nat.le_refl _)] at hi
   simp at hi
   subst hi
   by_cases hj':j<N.length
   ·rw[List.getElem?_append_left hj'] at hj
    exact absurd (List.mem_of_getElem? hj) hnew
   ·omega
end
instance:DecidableEq GDNode:=λa b=>decidable_of_iff (a.H=b.H/\a.W=b.W/\a.X=b.X) (by cases a;cases b;simp)
def mkD (v lo hi:Nat) (N:List GDNode):List GDNode×Nat:=
 if lo=hi then (N,lo) else if (⟨v,lo,hi⟩:GDNode)∈N then (N,2+N.idxOf ⟨v,lo,hi⟩) else (N++[⟨v,lo,hi⟩],2+N.length)
def dD:List Nat->(Asg->Bool)->List GDNode->List GDNode×Nat
 | [],f,N=>(N,if f (λ_=>false)=true then 1 else 0)
 | v :: vs,f,N=>mkD v (dD vs (λσ=>f (cE σ v false)) N).2 (dD vs (λσ=>f (cE σ v true)) (dD vs (λσ=>f (cE σ v false)) N).1).2 (dD vs (λσ=>f (cE σ v true)) (dD vs (λσ=>f (cE σ v false)) N).1).1
def Dep (f:Asg->Bool) (vs:List Nat):Prop:=∀σ σ':Asg,(∀v∈vs,σ v=σ' v)->f σ=f σ'
structure OrdL (n:Nat) (lev:Nat->Nat) (ord:List Nat):Prop where
 lv:LV n lev
 len:ord.length=n
 at_:∀i v,ord[i]? = some v->v<n/\lev v=i
 of:∀v,v<n->ord[lev v]? = some v
theorem OrdL.drop {n:Nat} {lev:Nat->Nat} {ord:List Nat} (h:OrdL n lev ord) {v:Nat} (hv:v<n):ord.drop (lev v)=v :: ord.drop (lev v+1):=by
 have h1:=h.of v hv
 obtain⟨hl,he⟩:=List.getElem?_eq_some_iff.1 h1
 rw[List.drop_eq_getElem_cons hl,he]
theorem OrdL.mem {n:Nat} {lev:Nat->Nat} {ord:List Nat} (h:OrdL n lev ord) {l v:Nat}:v∈ord.drop l↔v<n/\l<=lev v:=by
 constructor
 ·intro hm
  obtain⟨i,hi⟩:=List.mem_iff_getElem?.1 hm
  rw[List.getElem?_drop] at hi
  obtain⟨a,b⟩:=h.at_ _ _ hi
  exact⟨a,om⟩
 ·rintro⟨hv,hl⟩
  refine List.mem_iff_getElem?.2 ⟨lev v-l,?_⟩
  rw[List.getElem?_drop,show l+(lev v-l)=lev v by omega]
  exact h.of v hv
theorem Dep.sub {f:Asg->Bool} {vs ws:List Nat} (h:Dep f vs) (hs:∀v∈vs,v∈ws):Dep f ws:=λσ σ' hh=>h σ σ' λv hv=>hh v (hs v hv)
theorem Dep.set {f:Asg->Bool} {v:Nat} {vs:List Nat} {b:Bool} (h:Dep f (v :: vs)):Dep (λσ=>f (cE σ v b)) vs:=λσ σ' hh=>h _ _ λw hw=>by
 by_cases he:w=v
 ·subst he;rw[fN,fN]
 ·rw[gI he,gI he];exact hh w ((List.mem_cons.1 hw).resolve_left he)
theorem Dep.not {f:Asg->Bool} {v:Nat} {vs:List Nat} (h:Dep f vs) (hv:v∉vs) (σ:Asg) (b:Bool):f (cE σ v b)=f σ:=h _ _ λw hw=>gI (λhe=>hv (he▸hw))
section
variable {n:Nat} {lev:Nat->Nat} {ord:List Nat} {N:List GDNode}
theorem WT.dep (hO:OrdL n lev ord) (h:WT n lev N) {r:Nat} (hr:r<2+N.length):Dep (λσ=>den N σ r) (ord.drop (lvl n lev N r)):=by
 induction r using Nat.strongRecOn with
 | _ r ih=>
  rcases jb hr with rfl | rfl | ⟨i,x,rfl,hx⟩
  ·exact λσ σ' _=>by simp only[h_]
  ·exact λσ σ' _=>by simp only[jK]
  ·obtain⟨a,b,c,d,e,f⟩:=h.nd i x hx
   have hi:=(List.getElem?_eq_some_iff.1 hx).1
   intro σ σ' hh
   rw[og hx] at hh
   simp only[h.den_at hx]
   rw[hh x.H.toNat (hO.mem.2 ⟨om,Nat.le_refl _⟩)]
   have q1:=ih x.W.toNat om om σ σ' (λv hv=>hh v (hO.mem.2 ⟨(hO.mem.1 hv).1,by have:=(hO.mem.1 hv).2;omega⟩))
   have q2:=ih x.X.toNat om om σ σ' (λv hv=>hh v (hO.mem.2 ⟨(hO.mem.1 hv).1,by have:=(hO.mem.1 hv).2;omega⟩))
   simp only at q1 q2
   rw[q1,q2]
theorem WT.top (hO:OrdL n lev ord) (h:WT n lev N) {i:Nat} {x:GDNode} (hx:N[i]? = some x) (hd:∀σ b,den N (cE σ x.H.toNat b) (2+i)=den N σ (2+i)):False:=by
 obtain⟨a,b,c,d,e,f⟩:=h.nd i x hx
 have hi:=(List.getElem?_eq_some_iff.1 hx).1
 have:=h.canon hO.lv (r:=x.W.toNat) (s:=x.X.toNat) om om λσ=>by
  have h1:=h.den_cof hx σ false
  have h2:=h.den_cof hx σ true
  rw[hd] at h1 h2
  exact h1.symm.trans h2
 omega
theorem WT.lvl_ge (hO:OrdL n lev ord) (h:WT n lev N) {r l:Nat} (hr:r<2+N.length) (hl:l<=n) (hd:Dep (λσ=>den N σ r) (ord.drop l)):l<=lvl n lev N r:=by
 rcases jb hr with rfl | rfl | ⟨i,x,rfl,hx⟩
 ·rw[i6 om];exact hl
 ·rw[i6 om];exact hl
 ·rw[og hx]
  rcases lt_or_ge (lev x.H.toNat) l with hlt | hge
  ·exfalso
   refine h.top hO hx λσ b=>hd.not (λhm=>?_) σ b
   have:=(hO.mem.1 hm).2
   omega
  ·exact hge
theorem nP (hO:OrdL n lev ord) (h:WT n lev N):∀(k l:Nat),l+k=n->∀ {f:Asg->Bool} {r:Nat},Dep f (ord.drop l)->r<2+N.length->(∀σ,den N σ r=f σ)->dD (ord.drop l) f N=(N,r)
 | 0,l,hk,f,r,hd,hr,hf=>by
  have e:ord.drop l=[]:=List.drop_eq_nil_of_le (by rw[hO.len];omega)
  rw[e] at hd ⊢
  have hc:∀σ,den N σ r=f (λ_=>false):=λσ=>(hf σ).trans (hd _ _ (λv hv=>by simp at hv))
  rw[dD]
  cases hb:f (λ_=>false) with
  | true=>
   rw[if_pos rfl,h.canon hO.lv (r:=r) (s:=1) hr om (λσ=>by rw[hc,hb,jK])]
  | false=>
   rw[if_neg zSm,h.canon hO.lv (r:=r) (s:=0) hr om (λσ=>by rw[hc,hb,h_])]
 | k+1,l,hk,f,r,hd,hr,hf=>by
  have hl:l<ord.length:=by rw[hO.len];omega
  have hdr:ord.drop l=ord[l] :: ord.drop (l+1):=List.drop_eq_getElem_cons hl
  generalize hv:ord[l]=v at hdr
  have hat:=hO.at_ l v (by rw[List.getElem?_eq_getElem hl,hv])
  rw[hdr] at hd ⊢
  have hdN:Dep (λσ=>den N σ r) (ord.drop l):=by
   rw[hdr]
   exact λσ σ' hh=>by simp only[hf];exact hd σ σ' hh
  have hge:=h.lvl_ge hO hr om hdN
  rw[dD]
  by_cases hlt:l<lvl n lev N r
  ·have hfs:∀b σ,den N σ r=f (cE σ v b):=λb σ=>by
    rw[<-hf,h.den_set hr (by rw[hat.2];exact hlt)]
   rw[nP hO h k (l+1) om (r:=r) hd.set hr (hfs false),nP hO h k (l+1) om (r:=r) hd.set hr (hfs true)]
   simp[mkD]
  ·have hle:lvl n lev N r=l:=om
   rcases jb hr with rfl | rfl | ⟨i,x,rfl,hx⟩
   ·rw[i6 om] at hle;omega
   ·rw[i6 om] at hle;omega
   ·obtain⟨a,b,c,d,e,f'⟩:=h.nd i x hx
    have hi:=(List.getElem?_eq_some_iff.1 hx).1
    rw[og hx] at hle
    have hxv:x.H.toNat=v:=hO.lv.inj _ _ om hat.1 (by rw[hle,hat.2])
    have h1:∀σ,den N σ x.W.toNat=f (cE σ v false):=λσ=>by rw[<-hf,<-hxv];exact(h.den_cof hx σ false).symm
    have h2:∀σ,den N σ x.X.toNat=f (cE σ v true):=λσ=>by rw[<-hf,<-hxv];exact(h.den_cof hx σ true).symm
    rw[nP hO h k (l+1) om (r:=x.W.toNat) hd.set om h1,nP hO h k (l+1) om (r:=x.X.toNat) hd.set om h2]
    have hxe:(⟨(v:Int),((x.W.toNat:Nat):Int),((x.X.toNat:Nat):Int)⟩:GDNode)=x:=by
     cases x
     simp only[GDNode.mk.injEq]
     simp only at *
     omega
    have hm:x∈N:=List.mem_of_getElem? hx
    have hix:N.idxOf x=i:=by
     have hlt':N.idxOf x<N.length:=List.idxOf_lt_length_of_mem hm
     exact h.dis _ _ x (by rw[List.getElem?_eq_getElem hlt',List.getElem_idxOf]) hx
    simp only[mkD]
    rw[if_neg om,hxe,if_pos hm,hix]
theorem nO (hO:OrdL n lev ord):∀(k l:Nat),l+k=n->∀ {f:Asg->Bool} {N:List GDNode},WT n lev N->Dep f (ord.drop l)->
  WT n lev (dD (ord.drop l) f N).1/\(∃M,(dD (ord.drop l) f N).1=N++M)/\(dD (ord.drop l) f N).2<2+(dD (ord.drop l) f N).1.length/\∀σ,den (dD (ord.drop l) f N).1 σ (dD (ord.drop l) f N).2=f σ
 | 0,l,hk,f,N,h,hd=>by
  have e:ord.drop l=[]:=List.drop_eq_nil_of_le (by rw[hO.len];omega)
  rw[e] at hd ⊢
  rw[dD]
  refine⟨h,⟨[],by simp⟩,?_,λσ=>?_⟩
  ·simp only;split<;>omega
  ·simp only
   rw[hd σ (λ_=>false) (λv hv=>by simp at hv)]
   split
   ·rename_i hb;rw[jK,hb]
   ·rename_i hb;rw[h_];simpa using hb
 | k+1,l,hk,f,N,h,hd=>by
  have hl:l<ord.length:=by rw[hO.len];omega
  have hdr:ord.drop l=ord[l] :: ord.drop (l+1):=List.drop_eq_getElem_cons hl
  generalize hv:ord[l]=v at hdr
  have hat:=hO.at_ l v (by rw[List.getElem?_eq_getElem hl,hv])
  rw[hdr] at hd ⊢
  obtain⟨a1,⟨M1,a2⟩,a3,a4⟩:=nO hO k (l+1) om (f:=λσ=>f (cE σ v false)) h hd.set
  generalize hA:dD (ord.drop (l+1)) (λσ=>f (cE σ v false)) N=A at a1 a2 a3 a4
  obtain⟨b1,⟨M2,b2⟩,b3,b4⟩:=nO hO k (l+1) om (f:=λσ=>f (cE σ v true)) a1 hd.set
  generalize hB:dD (ord.drop (l+1)) (λσ=>f (cE σ v true)) A.1=B at b1 b2 b3 b4
  rw[dD,hA,hB]
  have a3':A.2<2+B.1.length:=by rw[b2,length_append];omega
  have a4':∀σ,den B.1 σ A.2=f (cE σ v false):=λσ=>by rw[b2,gM _ a3,a4]
  have hla:l+1<=lvl n lev B.1 A.2:=b1.lvl_ge hO a3' om (λσ σ' hh=>by simp only[a4'];exact hd.set σ σ' hh)
  have hlb:l+1<=lvl n lev B.1 B.2:=b1.lvl_ge hO b3 om (λσ σ' hh=>by simp only[b4];exact hd.set σ σ' hh)
  have hdec:∀σ,f σ=bif σ v then f (cE σ v true) else f (cE σ v false):=λσ=>by
   cases hs:σ v
   ·rw[show cE σ v false=σ by rw[<-hs];exact un];rfl
   ·rw[show cE σ v true=σ by rw[<-hs];exact un];rfl
  unfold mkD
  split
  ·rename_i heq
   refine⟨b1,⟨M1++M2,by rw[b2,a2,append_assoc]⟩,a3',λσ=>?_⟩
   rw[hdec]
   cases hs:σ v
   ·exact a4' σ
   ·have:=b4 σ;rw[<-heq] at this;exact this
  ·rename_i hne
   have hval:∀(N':List GDNode) (i:Nat) σ,N'[i]? = some (⟨(v:Int),(A.2:Int),(B.2:Int)⟩:GDNode)->(∃M,N'=B.1++M)->A.2<2+i->B.2<2+i->den N' σ (2+i)=f σ:=by
    rintro N' i σ hi ⟨M,rfl⟩ ha hb
    rw[wg hi (by simpa using ha) (by simpa using hb)]
    simp only[toNat_natCast]
    rw[gM _ a3',gM _ b3,a4',b4]
    exact(hdec σ).symm
   split
   ·rename_i hm
    have hlt:B.1.idxOf (⟨(v:Int),(A.2:Int),(B.2:Int)⟩:GDNode)<B.1.length:=List.idxOf_lt_length_of_mem hm
    have hget:B.1[B.1.idxOf (⟨(v:Int),(A.2:Int),(B.2:Int)⟩:GDNode)]? = some (⟨(v:Int),(A.2:Int),(B.2:Int)⟩:GDNode):=by rw[List.getElem?_eq_getElem hlt,List.getElem_idxOf]
    obtain⟨_,c1,c2,_⟩:=b1.nd _ _ hget
    simp only at c1 c2
    exact⟨b1,⟨M1++M2,by rw[b2,a2,append_assoc]⟩,by simp only;omega,λσ=>hval B.1 _ σ hget ⟨[],by simp⟩ om om⟩
   ·rename_i hm
    refine⟨b1.snoc ⟨by simp,by simp only;omega⟩ ⟨by simp,by simp only;omega⟩ ⟨by simp,by simp only;omega⟩ (by simp only;omega) (by simp only[toNat_natCast];rw[hat.2];omega) (by simp only[toNat_natCast];rw[hat.2];omega) hm,
     ⟨M1++M2++[⟨(v:Int),(A.2:Int),(B.2:Int)⟩],by rw[b2,a2];simp⟩,by simp,λσ=>hval _ _ σ zSm ⟨_,rfl⟩ a3' b3⟩
theorem C9 (hO:OrdL n lev ord) (h:WT n lev N) {f:Asg->Bool} {l:Nat} (hl:l<n) (hd:Dep f (ord.drop (l+1))):dD (ord.drop l) f N=dD (ord.drop (l+1)) f N:=by
 have hl':l<ord.length:=by rw[hO.len];omega
 have hdr:ord.drop l=ord[l] :: ord.drop (l+1):=List.drop_eq_getElem_cons hl'
 generalize hv:ord[l]=v at hdr
 have hat:=hO.at_ l v (by rw[List.getElem?_eq_getElem hl',hv])
 have hf:∀b,(λσ=>f (cE σ v b))=f:=λb=>by
  funext σ
  exact hd.not (λhm=>by have:=(hO.mem.1 hm).2;omega) σ b
 obtain⟨a1,_,a3,a4⟩:=nO hO (n-(l+1)) (l+1) om h hd
 rw[hdr,dD,hf,hf,nP hO a1 (n-(l+1)) (l+1) om hd a3 a4]
 simp[mkD]
theorem qP (hO:OrdL n lev ord) (h:WT n lev N) {f:Asg->Bool}:∀(k l:Nat),l+k<=n->Dep f (ord.drop (l+k))->dD (ord.drop l) f N=dD (ord.drop (l+k)) f N
 | 0,l,_,_=>rfl
 | k+1,l,hk,hd=>by
  rw[C9 hO h om (hd.sub λv hv=>hO.mem.2 ⟨(hO.mem.1 hv).1,by have:=(hO.mem.1 hv).2;omega⟩),qP hO h k (l+1) om (by rw[show l+1+k=l+(k+1) by omega];exact hd),show l+1+k=l+(k+1) by omega]
theorem C_ (hO:OrdL n lev ord) (h:WT n lev N) {f:Asg->Bool} {v:Nat} (hv:v<n) (hd:Dep f (ord.drop (lev v))) :
  dD ord f N=mkD v (dD ord (λσ=>f (cE σ v false)) N).2 (dD ord (λσ=>f (cE σ v true)) (dD ord (λσ=>f (cE σ v false)) N).1).2 (dD ord (λσ=>f (cE σ v true)) (dD ord (λσ=>f (cE σ v false)) N).1).1:=by
 have hlt:=hO.lv.lt v hv
 have hd2:∀b,Dep (λσ=>f (cE σ v b)) (ord.drop (lev v+1)):=λb=>by
  rw[hO.drop hv] at hd
  exact hd.set
 have e:∀(g:Asg->Bool) (N:List GDNode),WT n lev N->Dep g (ord.drop (lev v+1))->dD ord g N=dD (ord.drop (lev v+1)) g N:=λg N hN hg=>by
  have:=qP hO hN (f:=g) (lev v+1) 0 om (by simpa using hg)
  simpa using this
 have h0:dD ord f N=dD (ord.drop (lev v)) f N:=by
  have:=qP hO h (f:=f) (lev v) 0 om (by simpa using hd)
  simpa using this
 obtain⟨a1,_⟩:=nO hO (n-(lev v+1)) (lev v+1) om h (hd2 false)
 rw[h0,hO.drop hv,dD,e _ N h (hd2 false),e _ _ a1 (hd2 true)]
theorem sq (hO:OrdL n lev ord) (h:WT n lev N) {f:Asg->Bool} (hd:Dep f ord):WT n lev (dD ord f N).1/\(∃M,(dD ord f N).1=N++M)/\(dD ord f N).2<2+(dD ord f N).1.length/\∀σ,den (dD ord f N).1 σ (dD ord f N).2=f σ:=by
 have:=nO hO n 0 om (f:=f) h (by simpa using hd)
 simpa using this
theorem ET (hO:OrdL n lev ord) (h:WT n lev N) {f:Asg->Bool} {r:Nat} (hd:Dep f ord) (hr:r<2+N.length) (hf:∀σ,den N σ r=f σ):dD ord f N=(N,r):=by
 have:=nP hO h n 0 om (f:=f) (r:=r) (by simpa using hd) hr hf
 simpa using this
end
def Hu (N:List GDNode):Nat->Nat->List Int->List Int
 | 0,_,b=>b
 | fu+1,r,b=>if r<2\/(r:Int)∈b then b else match N[r-2]? with
  | none=>b
  | some x=>Hu N fu x.X.toNat (Hu N fu x.W.toNat b)++[(r:Int)]
def Jd (N:List GDNode) (r:Nat) (b:List Int):List Int:=Hu N (r+1) r b
section
variable {N:List GDNode}
def upto (k:Nat):List Int:=(range k).map λi=>((2+i:Nat):Int)
variable {n:Nat} {lev:Nat->Nat} {ord:List Nat}
end
theorem vK {V:Type} {m:GMap V} {k q:List Int} {v:V}:cT (mput m k v) q=if q=k then some v else cT m q:=rfl
theorem eV {V:Type} {m:GMap V} {k q:Int} {v:V}:cT (mput m [k] v) [q]=if q=k then some v else cT m [q]:=by
 rw[vK]
 by_cases h:q=k
 ·subst h;rw[if_pos rfl,if_pos rfl]
 ·rw[if_neg h,if_neg (λhc=>h (by simpa using hc))]
theorem rH {V:Type} {q:List Int}:cT (jj:GMap V) q=none:=rfl
section
variable {n:Nat} {lev:Nat->Nat} {ord:List Nat}
structure EX (n:Nat) (lev:Nat->Nat) (T:List GDNode) (refs:GMap Int) (N:List GDNode):Prop where
 wt:WT n lev N
 c0:cT refs [0]=some 0
 c1:cT refs [1]=some 1
 sound:∀r x,cT refs [r]=some x->0<=r/\r.toNat<2+T.length/\0<=x/\x.toNat<2+N.length/\∀σ,den N σ x.toNat=den T σ r.toNat
 onto:∀i,i<N.length->∃r,cT refs [r]=some ((2+i:Nat):Int)
variable {T N:List GDNode} {refs:GMap Int}
theorem WT.dep_all (hO:OrdL n lev ord) (h:WT n lev N) {r:Nat} (hr:r<2+N.length):Dep (λσ=>den N σ r) ord:=(h.dep hO hr).sub λ_ hv=>List.mem_of_mem_drop hv
theorem EX.start:EX n lev T (mput (mput jj [0] 0) [1] 1) []:=by
 refine⟨WT.nil,?_,?_,λr x h=>?_,λi hi=>by simp at hi⟩
 ·rw[eV,if_neg (by decide),eV,if_pos rfl]
 ·rw[eV,if_pos rfl]
 ·rw[eV] at h
  by_cases h1:r=1
  ·subst h1;rw[if_pos rfl] at h;cases h
   exact⟨by decide,by simp;omega,by decide,by simp,λσ=>by rw[show(1:Int).toNat=1 from rfl,jK,jK]⟩
  ·rw[if_neg h1,eV] at h
   by_cases h0:r=0
   ·subst h0;rw[if_pos rfl] at h;cases h
    exact⟨by decide,by simp;omega,by decide,by simp,λσ=>by rw[show(0:Int).toNat=0 from rfl,h_,h_]⟩
   ·rw[if_neg h0,rH] at h;cases h
theorem EX.old (hO:OrdL n lev ord) (hT:WT n lev T) (h:EX n lev T refs N) {r x:Int} (hr:cT refs [r]=some x):dD ord (λσ=>den T σ r.toNat) N=(N,x.toNat):=by
 obtain⟨_,h2,_,h4,h5⟩:=h.sound r x hr
 exact ET hO h.wt (hT.dep_all hO h2) h4 h5
theorem EX.node (hO:OrdL n lev ord) (hT:WT n lev T) {N1 N2:List GDNode} {refs2:GMap Int} {i:Nat} {x:GDNode} {y1 y2:Int} (hN:WT n lev N) (h:EX n lev T refs2 N2) (hx:T[i]? = some x) (hy1:0<=y1) (hy2:0<=y2)
  (e1:dD ord (λσ=>den T σ x.W.toNat) N=(N1,y1.toNat)) (e2:dD ord (λσ=>den T σ x.X.toNat) N1=(N2,y2.toNat)) (hno:cT refs2 [((2+i:Nat):Int)]=none) :
  dD ord (λσ=>den T σ (2+i)) N=(N2++[⟨x.H,y1,y2⟩],2+N2.length)/\EX n lev T (mput refs2 [((2+i:Nat):Int)] ((2+N2.length:Nat):Int)) (N2++[⟨x.H,y1,y2⟩]):=by
 obtain⟨a,b,c,d,e,f⟩:=hT.nd i x hx
 have hi:=(List.getElem?_eq_some_iff.1 hx).1
 have hv:x.H.toNat<n:=om
 have hd:=hT.dep hO (r:=2+i) om
 rw[og hx] at hd
 have f1:(λσ=>den T (cE σ x.H.toNat false) (2+i))=λσ=>den T σ x.W.toNat:=by funext σ;exact hT.den_cof hx σ false
 have f2:(λσ=>den T (cE σ x.H.toNat true) (2+i))=λσ=>den T σ x.X.toNat:=by funext σ;exact hT.den_cof hx σ true
 have s1:=sq hO hN (hT.dep_all hO (r:=x.W.toNat) om)
 rw[e1] at s1
 have s2:=sq hO s1.1 (hT.dep_all hO (r:=x.X.toNat) om)
 rw[e2] at s2
 obtain⟨w1,_,l1,d1⟩:=s1
 obtain⟨w2,⟨M,rfl⟩,l2,d2⟩:=s2
 simp only at w1 l1 d1 w2 l2 d2
 have l1':y1.toNat<2+(N1++M).length:=by simp;omega
 have d1':∀σ,den (N1++M) σ y1.toNat=den T σ x.W.toNat:=λσ=>by rw[gM _ l1,d1]
 have hne:y1.toNat≠y2.toNat:=λhc=>by
  have:=hT.canon hO.lv (r:=x.W.toNat) (s:=x.X.toNat) om om λσ=>by rw[<-d1',<-d2,hc]
  omega
 have hxe:(⟨((x.H.toNat:Nat):Int),((y1.toNat:Nat):Int),((y2.toNat:Nat):Int)⟩:GDNode)=⟨x.H,y1,y2⟩:=by
  simp only[GDNode.mk.injEq]
  omega
 have hval:∀(N':List GDNode) j σ,N'[j]? = some (⟨x.H,y1,y2⟩:GDNode)->(∃M',N'=(N1++M)++M')->y1.toNat<2+j->y2.toNat<2+j->den N' σ (2+j)=den T σ (2+i):=by
  rintro N' j σ hj ⟨M',rfl⟩ h1 h2
  rw[wg hj h1 h2,hT.den_at hx,gM _ l1',gM _ l2,d1',d2]
 have hnm:(⟨x.H,y1,y2⟩:GDNode)∉N1++M:=λhm=>by
  obtain⟨j,hj⟩:=List.mem_iff_getElem?.1 hm
  have hjl:=(List.getElem?_eq_some_iff.1 hj).1
  obtain⟨_,p1,p2,_⟩:=w2.nd j _ hj
  simp only at p1 p2
  obtain⟨r0,hr0⟩:=h.onto j hjl
  obtain⟨q1,q2,_,_,q5⟩:=h.sound r0 _ hr0
  have:=hT.canon hO.lv (r:=r0.toNat) (s:=2+i) q2 om λσ=>by
   rw[<-q5,toNat_natCast]
   exact hval _ j σ hj ⟨[],by simp⟩ om om
  rw[show r0=((2+i:Nat):Int) by omega,hno] at hr0
  cases hr0
 have hadd:dD ord (λσ=>den T σ (2+i)) N=((N1++M)++[⟨x.H,y1,y2⟩],2+(N1++M).length):=by
  rw[C_ hO hN hv hd,f1,f2,e1,e2]
  simp only[mkD]
  rw[if_neg hne,hxe,if_neg hnm]
 refine⟨hadd,?_⟩
 have s3:=sq hO hN (hT.dep_all hO (r:=2+i) om)
 rw[hadd] at s3
 refine⟨s3.1,?_,?_,λr y hr=>?_,λj hj=>?_⟩
 ·rw[eV,if_neg om];exact h.c0
 ·rw[eV,if_neg om];exact h.c1
 ·rw[eV] at hr
  by_cases hri:r=((2+i:Nat):Int)
  ·rw[if_pos hri] at hr
   cases hr
   subst hri
   refine⟨om,by rw[toNat_natCast];omega,om,by rw[toNat_natCast];simp,λσ=>?_⟩
   rw[toNat_natCast,toNat_natCast]
   exact s3.2.2.2 σ
  ·rw[if_neg hri] at hr
   obtain⟨q1,q2,q3,q4,q5⟩:=h.sound r y hr
   exact⟨q1,q2,q3,by rw[length_append];omega,λσ=>by rw[gM _ q4,q5]⟩
 ·have hlen:((N1++M)++[(⟨x.H,y1,y2⟩:GDNode)]).length=(N1++M).length+1:=by rw[length_append];rfl
  rw[hlen] at hj
  by_cases hj':j<(N1++M).length
  ·obtain⟨r,hr⟩:=h.onto j hj'
   refine⟨r,?_⟩
   rw[eV,if_neg,hr]
   rintro rfl
   rw[hno] at hr;cases hr
  ·obtain rfl:j=(N1++M).length:=om
   exact⟨((2+i:Nat):Int),by rw[eV,if_pos rfl]⟩
end
def Vd (N:List GDNode) (r:Int):Prop:=0<=r/\r.toNat<2+N.length
def dn (N:List GDNode) (r:Int) (σ:Asg):Bool:=den N σ r.toNat
def Pre (N N':List GDNode):Prop:=∃M,N'=N++M
theorem Pre.refl (N:List GDNode):Pre N N:=⟨[],by simp⟩
theorem Pre.trans {A B C:List GDNode} (h:Pre A B) (h':Pre B C):Pre A C:=let ⟨M,a⟩:=h;let ⟨M',b⟩:=h';⟨M++M',by rw[b,a,append_assoc]⟩
theorem Pre.len {A B:List GDNode} (h:Pre A B):A.length<=B.length:=by obtain⟨M,rfl⟩:=h;simp
theorem Vd.pre {N N':List GDNode} {r:Int} (h:Vd N r) (hp:Pre N N'):Vd N' r:=⟨h.1,by have:=h.2;have:=hp.len;omega⟩
theorem gi {N N':List GDNode} {r:Int} (h:Vd N r) (hp:Pre N N'):dn N' r=dn N r:=by
 obtain⟨M,rfl⟩:=hp
 funext σ
 exact gM M h.2
theorem Pre.lvl {n:Nat} {lev:Nat->Nat} {N N':List GDNode} {r:Int} (h:Vd N r) (hp:Pre N N'):lvl n lev N' r.toNat=lvl n lev N r.toNat:=by
 obtain⟨M,rfl⟩:=hp
 exact rI M h.2
theorem vd0 {N:List GDNode}:Vd N 0:=⟨by decide,by show 0<_;omega⟩
theorem vd1 {N:List GDNode}:Vd N 1:=⟨by decide,by show 1<_;omega⟩
theorem dn0 {N:List GDNode}:dn N 0=λ_=>false:=by funext σ;exact h_
theorem dn1 {N:List GDNode}:dn N 1=λ_=>true:=by funext σ;exact jK
structure TB (n:Nat) (lev:Nat->Nat) (nodes:List GDNode) (unique memo:GMap Int):Prop where
 wt:WT n lev nodes
 uq:∀v lo hi r,cT unique [v,lo,hi]=some r↔∃i,r=((2+i:Nat):Int)/\nodes[i]? = some ⟨v,lo,hi⟩
 me:∀c a b r,cT memo [c,a,b]=some r->(Vd nodes c/\Vd nodes a/\Vd nodes b)/\Vd nodes r/\∀σ,dn nodes r σ=bif dn nodes c σ then dn nodes a σ else dn nodes b σ
section
variable {n:Nat} {lev:Nat->Nat} {ord:List Nat} {nodes:List GDNode} {unique memo:GMap Int}
theorem TB.nil:TB n lev [] jj jj:=⟨WT.nil,λv lo hi r=>⟨λh=>by simp[rH] at h,λ⟨i,_,h⟩=>by simp at h⟩,λc a b r h=>by simp[rH] at h⟩
theorem TB.make_old (h:TB n lev nodes unique memo) {v lo hi r:Int} (hr:cT unique [v,lo,hi]=some r):Vd nodes r/\∀σ,dn nodes r σ=bif σ v.toNat then dn nodes hi σ else dn nodes lo σ:=by
 obtain⟨i,rfl,hi'⟩:=(h.uq v lo hi r).1 hr
 have hl:=(List.getElem?_eq_some_iff.1 hi').1
 refine⟨⟨om,by rw[toNat_natCast];omega⟩,λσ=>?_⟩
 unfold dn
 rw[toNat_natCast]
 exact h.wt.den_at hi' σ
theorem TB.make_new (h:TB n lev nodes unique memo) {v lo hi:Int} (hv:0<=v/\v<n) (hlo:Vd nodes lo) (hhi:Vd nodes hi) (hne:lo≠hi) (h1:lev v.toNat<lvl n lev nodes lo.toNat) (h2:lev v.toNat<lvl n lev nodes hi.toNat) (hno:cT unique [v,lo,hi]=none) :
  TB n lev (nodes++[⟨v,lo,hi⟩]) (mput unique [v,lo,hi] (2+nodes.length)) memo/\Vd (nodes++[⟨v,lo,hi⟩]) (2+nodes.length)/\
   ∀σ,dn (nodes++[⟨v,lo,hi⟩]) (2+nodes.length) σ=bif σ v.toNat then dn nodes hi σ else dn nodes lo σ:=by
 have hnm:(⟨v,lo,hi⟩:GDNode)∉nodes:=λhm=>by
  obtain⟨i,hi'⟩:=List.mem_iff_getElem?.1 hm
  have:=(h.uq v lo hi _).2 ⟨i,rfl,hi'⟩
  rw[hno] at this;cases this
 have hp:Pre nodes (nodes++[⟨v,lo,hi⟩]):=⟨_,rfl⟩
 have w:=h.wt.snoc (x:=⟨v,lo,hi⟩) hv ⟨hlo.1,by have:=hlo.2;have:=hlo.1;simp only;omega⟩ ⟨hhi.1,by have:=hhi.2;have:=hhi.1;simp only;omega⟩ hne h1 h2 hnm
 have hlast:(nodes++[⟨v,lo,hi⟩])[nodes.length]? = some (⟨v,lo,hi⟩:GDNode):=by simp
 refine⟨⟨w,λv' lo' hi' r=>?_,λc a b r hr=>?_⟩,⟨om,by rw[length_append,length_singleton];omega⟩,λσ=>?_⟩
 ·rw[vK]
  constructor
  ·intro hh
   by_cases he : [v',lo',hi']=[v,lo,hi]
   ·rw[if_pos he] at hh
    simp only[List.cons.injEq,and_true] at he
    obtain⟨rfl,rfl,rfl⟩:=he
    cases hh
    exact⟨nodes.length,om,hlast⟩
   ·rw[if_neg he] at hh
    obtain⟨i,a,b⟩:=(h.uq _ _ _ _).1 hh
    exact⟨i,a,by rw[List.getElem?_append_left (List.getElem?_eq_some_iff.1 b).1];exact b⟩
  ·rintro⟨i,rfl,hi2⟩
   have hil:=(List.getElem?_eq_some_iff.1 hi2).1
   rw[length_append,length_singleton] at hil
   by_cases hi3:i<nodes.length
   ·rw[List.getElem?_append_left hi3] at hi2
    have:=(h.uq v' lo' hi' _).2 ⟨i,rfl,hi2⟩
    rw[if_neg,this]
    intro he
    simp only[List.cons.injEq,and_true] at he
    obtain⟨rfl,rfl,rfl⟩:=he
    rw[hno] at this;cases this
   ·obtain rfl:i=nodes.length:=om
    rw[hlast] at hi2
    cases hi2
    rw[if_pos rfl]
    congr 1
 ·obtain⟨⟨p1,p2,p3⟩,p4,p5⟩:=h.me c a b r hr
  exact⟨⟨p1.pre hp,p2.pre hp,p3.pre hp⟩,p4.pre hp,λσ=>by rw[gi p4 hp,gi p1 hp,gi p2 hp,gi p3 hp];exact p5 σ⟩
 ·have:=w.den_at hlast σ
  unfold dn
  rw[show(2+(nodes.length:Int)).toNat=2+nodes.length by omega,this]
  simp only
  rw[gM _ hlo.2,gM _ hhi.2]
theorem TB.memo_put (h:TB n lev nodes unique memo) {c a b r:Int} (hc:Vd nodes c) (ha:Vd nodes a) (hb:Vd nodes b) (hr:Vd nodes r) (hd:∀σ,dn nodes r σ=bif dn nodes c σ then dn nodes a σ else dn nodes b σ):TB n lev nodes unique (mput memo [c,a,b] r):=by
 refine⟨h.wt,h.uq,λc' a' b' r' hh=>?_⟩
 rw[vK] at hh
 by_cases he : [c',a',b']=[c,a,b]
 ·rw[if_pos he] at hh
  simp only[List.cons.injEq,and_true] at he
  obtain⟨rfl,rfl,rfl⟩:=he
  cases hh
  exact⟨⟨hc,ha,hb⟩,hr,hd⟩
 ·rw[if_neg he] at hh
  exact h.me c' a' b' r' hh
end
def mr (k:Int) (n:Nat):Bool:=if k=0 then decide (n=0) else if k=1 then decide (n=1) else decide (1<=n/\n<=16)
def jC (f:GFormula) (i:Nat):Int:=
 if (at' f.V (i:Int)).D<0\/5<(at' f.V (i:Int)).D then 7
 else if mr (at' f.V (i:Int)).D (at' f.V (i:Int)).M.length=false then 11
 else if ∃j<(at' f.V (i:Int)).M.length,at' (at' f.V (i:Int)).M (j:Int)<0\/f.A+i<=at' (at' f.V (i:Int)).M (j:Int) then 10
 else if (at' f.V (i:Int)).D=0 then (if (at' f.V (i:Int)).K≠0/\(at' f.V (i:Int)).K≠1 then 3 else 0)
 else if (at' f.V (i:Int)).D=4 then (if (at' f.V (i:Int)).K<1\/((at' f.V (i:Int)).M.length:Int)<(at' f.V (i:Int)).K then 3 else 0)
 else if (at' f.V (i:Int)).K≠0 then 2 else 0
def su (f:GFormula) (a:Int):Bool:=decide (0<=f.A/\0<=a/\(a<f.A\/a-f.A<f.V.length))
def jT (f:GFormula):Int:=
 if f.A<0\/24<f.A then 3 else if 128<f.V.length then 4
 else if j4 (jC f) f.V.length≠0 then j4 (jC f) f.V.length
 else if su f f.F=false then 10 else 0
theorem Aj {k:Int} {n:Nat} (h:mr k n=true):n<=16:=by
 unfold mr at h
 split at h
 ·simp at h;omega
 ·split at h
  ·simp at h;omega
  ·simp at h;omega
theorem p_ {k:Int} {n:Nat} {Q:Bool->Prop} (h:Q (mr k n)):iE k n Q:=by
 unfold mr at h
 refine bV (λhc=>?_) (λhc=>bV (λhc1=>?_) (λhc1=>condT (λh1=>?_) (λh1=>?_)))
 ·rw[if_pos hc] at h
  rw[show((n:Int) == 0)=decide (n=0) by rw[Bool.eq_iff_iff];simp];exact h
 ·rw[if_neg hc,if_pos hc1] at h
  rw[show((n:Int) == 1)=decide (n=1) by rw[Bool.eq_iff_iff];simp;omega];exact h
 ·rw[if_neg hc,if_neg hc1] at h
  rw[show decide ((n:Int)<=16)=decide (1<=n/\n<=16) from decide_eq_decide.2 om];exact h
 ·rw[if_neg hc,if_neg hc1,decide_eq_false om] at h;exact h
theorem p9 {f:GFormula} {i:Nat} {Q:Option Int->Prop} (hi:i<f.V.length) (hV:0<=f.A/\f.A<=24) (hn:f.V.length<=128) (h:Q (my (jC f i))):iD f i Q:=by
 unfold jC at h
 refine⟨⟨om,om⟩,λy=>y=decide ((at' f.V (i:Int)).D<0\/5<(at' f.V (i:Int)).D),?_,?_⟩
 ·exact condT (λhc=>(decide_eq_true (Or.inl hc)).symm) (λhc=>decide_eq_decide.2 ⟨Or.inr,λhh=>hh.resolve_left hc⟩)
 rintro _ rfl
 refine condT (λhc=>?_) (λhc=>?_)
 ·rw[if_pos hc] at h;exact h
 rw[if_neg hc] at h
 refine p_ (bf (λhb=>?_) (λhb=>?_))
 ·rw[if_pos (by simpa using hb)] at h;exact h
 simp only[Bool.not_eq_false'] at hb
 rw[if_neg (by rw[hb];simp)] at h
 have hl:=Aj hb
 refine lk (λj=>at' (at' f.V (i:Int)).M (j:Int)<0\/f.A+i<=at' (at' f.V (i:Int)).M (j:Int)) om (λj next hj hI hnx=>?_) (λhall=>?_)
 ·refine⟨⟨om,om⟩,λy=>y=decide (at' (at' f.V (i:Int)).M (j:Int)<0\/f.A+i<=at' (at' f.V (i:Int)).M (j:Int)),?_,?_⟩
  ·exact condT (λhc2=>(decide_eq_true (Or.inl hc2)).symm) (λhc2=>⟨zRg,decide_eq_decide.2 ⟨Or.inr,λhh=>hh.resolve_left hc2⟩⟩)
  ·rintro _ rfl
   refine condT (λhb2=>?_) (λhb2=>hnx hb2)
   rw[if_pos ⟨j,hj,hb2⟩] at h;exact h
 rw[if_neg (by rintro⟨j,hj,hb2⟩;exact hall j hj hb2)] at h
 refine bV (λh0=>?_) (λh0=>?_)
 ·rw[if_pos h0] at h
  refine⟨λy=>y=decide ((at' f.V (i:Int)).K≠0/\(at' f.V (i:Int)).K≠1),?_,?_⟩
  ·refine fJ (λhk=>?_) (λhk=>?_)
   ·show((at' f.V (i:Int)).K != 1)=_
    rw[Bool.eq_iff_iff];simp[hk]
   ·rw[decide_eq_false (λhh=>hh.1 hk)]
  ·rintro _ rfl
   refine condT (λhk=>?_) (λhk=>?_)
   ·rw[if_pos hk] at h;exact h
   ·rw[if_neg hk] at h;exact h
 rw[if_neg h0] at h
 refine bV (λh4=>?_) (λh4=>?_)
 ·rw[if_pos h4] at h
  refine⟨λy=>y=decide ((at' f.V (i:Int)).K<1\/((at' f.V (i:Int)).M.length:Int)<(at' f.V (i:Int)).K),?_,?_⟩
  ·exact condT (λhk=>(decide_eq_true (Or.inl hk)).symm) (λhk=>decide_eq_decide.2 ⟨Or.inr,λhh=>hh.resolve_left hk⟩)
  ·rintro _ rfl
   refine condT (λhk=>?_) (λhk=>?_)
   ·rw[if_pos hk] at h;exact h
   ·rw[if_neg hk] at h;exact h
 rw[if_neg h4] at h
 refine fJ (λhk=>?_) (λhk=>?_)
 ·rw[if_pos hk] at h;exact h
 ·rw[if_neg (λhh=>hh hk)] at h;exact h
theorem yc {f:GFormula} {i:Nat} {Q:Int->Prop} (hi:i<f.V.length) (hV:0<=f.A/\f.A<=24) (hn:f.V.length<=128) (h:Q (jC f i)):n8 f i Q:=by
 unfold jC at h
 have hf7:((at' f.V (i:Int)).D≠0/\(at' f.V (i:Int)).D≠1/\(at' f.V (i:Int)).D≠2/\(at' f.V (i:Int)).D≠3/\(at' f.V (i:Int)).D≠4/\(at' f.V (i:Int)).D≠5)->Q 7:=λhh=>by
  rw[if_pos om] at h;exact h
 refine⟨⟨om,om⟩,λy=>(0<=(at' f.V (i:Int)).D/\(at' f.V (i:Int)).D<=5)/\(0<=y.1/\y.1<=1/\0<=y.2/\y.2<=16)/\∀n:Nat,mr (at' f.V (i:Int)).D n=decide (y.1<=n/\(n:Int)<=y.2),?_,?_⟩
 ·have hbig:∀n:Nat,(at' f.V (i:Int)).D≠0->(at' f.V (i:Int)).D≠1->mr (at' f.V (i:Int)).D n=decide ((1:Int)<=n/\(n:Int)<=16):=λn h0 h1=>by
   rw[mr,if_neg h0,if_neg h1];exact decide_eq_decide.2 om
  refine bV (λh0:(at' f.V (i:Int)).D=0=>⟨om,by decide,λn=>by rw[mr,if_pos h0];exact decide_eq_decide.2 (by dsimp only;omega)⟩) (λh0=>bV (λh1:(at' f.V (i:Int)).D=1=>⟨om,by decide,λn=>by rw[mr,if_neg h0,if_pos h1];exact decide_eq_decide.2 (by dsimp only;omega)⟩) (λh1=>?_))
  exact bV (λh2:(at' f.V (i:Int)).D=2=>⟨om,by decide,λn=>hbig n h0 h1⟩) (λh2=>bV (λh3:(at' f.V (i:Int)).D=3=>⟨om,by decide,λn=>hbig n h0 h1⟩) (λh3=>bV (λh4:(at' f.V (i:Int)).D=4=>⟨om,by decide,λn=>hbig n h0 h1⟩) (λh4=>bV (λh5:(at' f.V (i:Int)).D=5=>⟨om,by decide,λn=>hbig n h0 h1⟩) (λh5=>hf7 ⟨h0,h1,h2,h3,h4,h5⟩))))
 rintro⟨lo,hi2⟩ ⟨hkind,hb,hargs⟩
 dsimp only at hb hargs
 rw[if_neg om] at h
 refine condT (λ(hc:((at' f.V (i:Int)).M.length:Int)<lo)=>?_) (λ(hc:¬((at' f.V (i:Int)).M.length:Int)<lo)=>condT (λ(hc2:hi2<((at' f.V (i:Int)).M.length:Int))=>?_) (λ(hc2:¬hi2<((at' f.V (i:Int)).M.length:Int))=>?_))
 ·rw[if_pos (by rw[hargs];exact decide_eq_false om)] at h;exact h
 ·rw[if_pos (by rw[hargs];exact decide_eq_false om)] at h;exact h
 rw[if_neg (by rw[hargs,decide_eq_true om];simp)] at h
 refine lk (n:=(at' f.V (i:Int)).M.length) (λj=>at' (at' f.V (i:Int)).M (j:Int)<0\/f.A+i<=at' (at' f.V (i:Int)).M (j:Int)) om (λj next hj hI hnx=>?_) (λhall=>?_)
 ·refine⟨⟨om,show(j:Int)<((at' f.V (i:Int)).M.length:Int) by omega⟩,condT (λhc3=>?_) (λhc3=>⟨zRg,condT (λhc4=>?_) (λhc4=>hnx (by rw[not_or];exact⟨hc3,hc4⟩))⟩)⟩
  ·rw[if_pos ⟨j,hj,Or.inl hc3⟩] at h;exact h
  ·rw[if_pos ⟨j,hj,Or.inr hc4⟩] at h;exact h
 rw[if_neg (by rintro⟨j,hj,hb2⟩;exact hall j hj hb2)] at h
 refine bV (λh0=>?_) (λh0=>?_)
 ·rw[if_pos h0] at h
  refine fJ (λhk=>fJ (λhk1=>?_) (λhk1=>?_)) (λhk=>?_)
  ·rw[if_pos ⟨hk,hk1⟩] at h;exact h
  ·rw[if_neg (λhh=>hh.2 hk1)] at h;exact h
  ·rw[if_neg (λhh=>hh.1 hk)] at h;exact h
 rw[if_neg h0] at h
 refine bV (λh4=>?_) (λh4=>?_)
 ·rw[if_pos h4] at h
  refine condT (λhk=>?_) (λhk=>condT (λhk2=>?_) (λhk2=>?_))
  ·rw[if_pos (Or.inl hk)] at h;exact h
  ·rw[if_pos (Or.inr hk2)] at h;exact h
  ·rw[if_neg (by rw[not_or];exact⟨hk,hk2⟩)] at h;exact h
 rw[if_neg h4] at h
 refine fJ (λhk=>?_) (λhk=>?_)
 ·rw[if_pos hk] at h;exact h
 ·rw[if_neg (λhh=>hh hk)] at h;exact h
theorem oJ {f:GFormula} {a:Int} {Q:Bool->Prop} (ha:rng a) (h:Q (su f a)):lh f a Q:=by
 unfold su at h
 unfold rng at ha
 refine condT (λh1=>condT (λh2=>condT (λh3=>?_) (λh3=>⟨zRg,?_⟩)) (λh2=>?_)) (λh1=>?_)
 ·rw[decide_eq_true ⟨h1,h2,Or.inl h3⟩] at h;exact h
 ·rw[show decide (a-f.A<(f.V.length:Int))=decide (0<=f.A/\0<=a/\(a<f.A\/a-f.A<f.V.length)) from decide_eq_decide.2 om];exact h
 ·rw[decide_eq_false (λhh=>h2 hh.2.1)] at h;exact h
 ·rw[decide_eq_false (λhh=>h1 hh.1)] at h;exact h
theorem wQ {f:GFormula} {a:Int} {Q:Bool->Prop} (ha:rng a) (h:Q (su f a)):m7 f a Q:=oJ ha h
theorem eb {e:Int}:(my e).isSome=decide (e≠0):=by
 unfold my
 by_cases h:e=0
 ·rw[if_pos h,decide_eq_false (λhh=>hh h)];rfl
 ·rw[if_neg h,decide_eq_true h];rfl
theorem fx {f:GFormula} {Q:Option Int->Prop} (ht:rng f.F) (h:Q (my (jT f))):dv f Q:=by
 unfold jT at h
 refine⟨λy=>y=decide (f.A<0\/24<f.A),?_,?_⟩
 ·exact condT (λhc=>(decide_eq_true (Or.inl hc)).symm) (λhc=>decide_eq_decide.2 ⟨Or.inr,λhh=>hh.resolve_left hc⟩)
 rintro _ rfl
 refine condT (λhc=>?_) (λhc=>?_)
 ·rw[if_pos hc] at h;exact h
 rw[if_neg hc] at h
 refine condT (λhc2=>?_) (λhc2=>?_)
 ·rw[if_pos om] at h;exact h
 rw[if_neg om] at h
 refine lk (λi=>jC f i≠0) om (λi next hi hI hnx=>?_) (λhall=>?_)
 ·refine p9 hi om om ?_
  rw[eb]
  refine condT (λhe=>?_) (λhe=>hnx he)
  rw[hZ (λj hj=>Decidable.not_not.1 (hI j hj)) he _ hi,if_pos he] at h
  exact h
 ·rw[if_neg (λhh=>hh (cq.2 λj hj=>Decidable.not_not.1 (hall j hj)))] at h
  refine oJ ht (bf (λhb=>?_) (λhb=>?_))
  ·rw[if_pos (by simpa using hb)] at h;exact h
  ·rw[if_neg (by simpa using hb)] at h;exact h
theorem wS {f:GFormula} {Q:Int->Prop} (ht:rng f.F) (h:Q (jT f)):m8 f Q:=by
 unfold jT at h
 refine condT (λhc=>?_) (λhc=>condT (λhc1=>?_) (λhc1=>?_))
 ·rw[if_pos (Or.inl hc)] at h;exact h
 ·rw[if_pos (Or.inr hc1)] at h;exact h
 rw[if_neg om] at h
 refine condT (λhc2=>?_) (λhc2=>?_)
 ·rw[if_pos om] at h;exact h
 rw[if_neg om] at h
 refine lk (λi=>jC f i≠0) om (λi next hi hI hnx=>?_) (λhall=>?_)
 ·refine yc hi om om (fJ (λhe=>?_) (λhe=>hnx (λhh=>hh he)))
  rw[hZ (λj hj=>Decidable.not_not.1 (hI j hj)) he _ hi,if_pos he] at h
  exact h
 ·rw[if_neg (λhh=>hh (cq.2 λj hj=>Decidable.not_not.1 (hall j hj)))] at h
  refine wQ ht (bf (λhb=>?_) (λhb=>?_))
  ·rw[if_pos (by simpa using hb)] at h;exact h
  ·rw[if_neg (by simpa using hb)] at h;exact h
structure FG (f:GFormula):Prop where
 v0:0<=f.A
 v24:f.A<=24
 n128:f.V.length<=128
 node:∀i,i<f.V.length->jC f i=0
 top0:0<=f.F
 top:f.F<f.A+f.V.length
theorem j9 {f:GFormula}:jT f=0↔FG f:=by
 unfold jT
 constructor
 ·intro h
  split at h
  ·cases h
  split at h
  ·cases h
  split at h
  ·rename_i h3;exact absurd h h3
  split at h
  ·cases h
  rename_i h1 h2 h3 h4
  rw[Decidable.not_not] at h3
  have h5:=cq.1 h3
  simp only[su,Bool.not_eq_false,decide_eq_true_eq] at h4
  exact⟨om,om,om,h5,om,om⟩
 ·intro h
  rw[if_neg (by have:=h.v0;have:=h.v24;omega),if_neg (by have:=h.n128;omega),if_neg (λhh=>hh (cq.2 h.node)),if_neg]
  have:=h.v0;have:=h.top0;have:=h.top
  simp only[su,Bool.not_eq_false,decide_eq_true_eq]
  omega
structure NG (f:GFormula) (i:Nat):Prop where
 k0:0<=(at' f.V (i:Int)).D
 k5:(at' f.V (i:Int)).D<=5
 len:(at' f.V (i:Int)).M.length<=16
 arg:∀j:Nat,j<(at' f.V (i:Int)).M.length->0<=at' (at' f.V (i:Int)).M (j:Int)/\at' (at' f.V (i:Int)).M (j:Int)<f.A+i
 args:mr (at' f.V (i:Int)).D (at' f.V (i:Int)).M.length=true
theorem fB {f:GFormula} {i:Nat} (h:jC f i=0):NG f i:=by
 unfold jC at h
 split at h
 ·cases h
 split at h
 ·cases h
 split at h
 ·cases h
 rename_i h1 h2 h3
 refine⟨om,om,Aj (by simpa using h2),λj hj=>?_,by simpa using h2⟩
 rw[not_exists] at h3
 have:=h3 j
 simp only[hj,true_and,not_or] at this
 omega
theorem Bc {y:Int} (h0:0<=y) (h1:y<4294967296):bits .and .i64 y 1=y % 2:=by
 obtain⟨m,rfl⟩:=eq_ofNat_of_zero_le h0
 show IntKind.i64.wrap (((BitVec.ofInt 64 (m:Int)) &&& (BitVec.ofInt 64 1)).toNat:Int)=_
 rw[BitVec.toNat_and,BitVec.toNat_ofInt,BitVec.toNat_ofInt]
 have e1:((m:Int) % ((2^64:Nat):Int)).toNat=m:=om
 have e2:((1:Int) % ((2^64:Nat):Int)).toNat=1:=om
 rw[e1,e2,Nat.and_one_is_mod]
 have e3:m % 2=0\/m % 2=1:=om
 have e4:(m:Int) % 2=((m % 2:Nat):Int):=om
 rw[e4]
 rcases e3 with e | e<;>rw[e]<;>rfl
def inS (s i:Nat):Bool:=decide (s / 2^i % 2=1)
theorem HX {s k:Nat} (hx:s<4294967296):(bits .and .i64 ((s:Int) / 2^(toNat (k:Int))) 1 == 1)=inS s k:=by
 have e:((s:Int) / 2^(toNat (k:Int)))=((s / 2^k:Nat):Int):=by rw[toNat_natCast];simp
 have:=Nat.div_le_self s (2^k)
 unfold inS
 rw[e]
 generalize s / 2^k=z at this
 rw[Bc om om,Bool.eq_iff_iff]
 simp only[beq_iff_eq,decide_eq_true_eq]
 omega
def cnt (x:GNode) (v:List Bool):Nat->Nat
 | 0=>0
 | j+1=>cnt x v j+(if at' v (at' x.M (j:Int))=true then 1 else 0)
def nJ (x:GNode) (n:Nat):Bool:=
 if x.D=0 then x.K == 1 else if x.D=1 then (n:Int) == 0 else if x.D=2 then (n:Int) == (x.M.length:Int) else if x.D=3 then decide ((0:Int)<n)
 else if x.D=4 then decide (x.K<=n) else Int.tmod n 2 == 1
def gZ (x:GNode) (v:List Bool):Bool:=nJ x (cnt x v x.M.length)
def cD (f:GFormula) (s:Nat):Nat->List Bool
 | 0=>(range f.A.toNat).map (inS s)
 | i+1=>cD f s i++[gZ (at' f.V (i:Int)) (cD f s i)]
def FV (f:GFormula) (s:Nat):Bool:=at' (cD f s f.V.length) f.F
theorem kx {f:GFormula} {s:Nat}:∀i,(cD f s i).length=f.A.toNat+i
 | 0=>by simp[cD]
 | i+1=>by rw[cD,length_append,kx i];simp;omega
theorem eg {α:Type} [Inhabited α] {l m:List α} {i:Int} (h0:0<=i) (h:i<l.length):at' (l++m) i=at' l i:=by
 obtain⟨k,rfl⟩:=eq_ofNat_of_zero_le h0
 have:k<l.length:=om
 simp[at',List.getD_eq_getElem?_getD,List.getElem?_append,this]
theorem ie {α:Type} [Inhabited α] {l:List α} {x:α}:at' (l++[x]) (l.length:Int)=x:=by
 simp[at',List.getD_eq_getElem?_getD]
theorem jl {f:GFormula} {s m:Nat} {a:Int} (h0:0<=a) (h:a<f.A.toNat+m):∀n,m<=n->at' (cD f s n) a=at' (cD f s m) a
 | 0,hn=>by
        obtain rfl:m=0:=om
        rfl
 | n+1,hn=>by
  rcases lt_or_ge n m with h1 | h1
  ·obtain rfl:m=n+1:=om
   rfl
  ·rw[cD,eg h0 (by rw[kx];omega),jl h0 h n h1]
theorem Ba {x:GNode} {v:List Bool}:∀j,cnt x v j<=j
 | 0=>Nat.le_refl _
 | j+1=>by have:=Ba (x:=x) (v:=v) j;rw[cnt];split<;>omega
theorem ib {α:Type} [Inhabited α] {l:List α} {i:Nat} {x:α} {j:Nat} (h:i<l.length):at' (bu l (i:Int) x) (j:Int)=if j=i then x else at' l (j:Int):=by
 simp only[at',bu,toNat_natCast,List.getD_eq_getElem?_getD,List.getElem?_set]
 by_cases hij:i=j
 ·subst hij;simp[h]
 ·rw[if_neg hij,if_neg (λe=>hij e.symm)]
theorem dE {α:Type} {l:List α} {i:Int} {x:α}:(bu l i x).length=l.length:=by simp[bu]
theorem sV {f:GFormula} {s:Nat} {Q:List Bool->Prop} (g:FG f) (hs:s<4294967296) (h:Q (cD f s f.V.length)):j3 f s Q:=by
 have v0:=g.v0
 have v24:=g.v24
 have n128:=g.n128
 refine⟨zRg,⟨om,om,om,om⟩,?_⟩
 refine dG (n:=f.A.toNat) (λi y=>y.1=(i:Int)/\y.2.length=f.A.toNat/\∀j,j<i->at' y.2 (j:Int)=inS s j) (λy=>y.1) 0 (λi y hy=>by rw[hy.1];omega) ⟨rfl,by simp[bT],λj hj=>absurd hj om⟩ ?_ ?_
 ·rintro i ⟨x,v⟩ next hi ⟨rfl,hl,hI⟩ hn
  dsimp only at hl hI
  refine condT (λhc=>⟨⟨om,om⟩,⟨om,om⟩,zRg,hn _ ⟨rfl,by rw[dE];exact hl,λj hj=>?_⟩⟩) (λhc=>absurd (show(i:Int)<(f.A.toNat:Int) by omega) hc)
  dsimp only
  rw[ib om]
  by_cases hji:j=i
  ·rw[if_pos hji,HX hs,hji]
  ·rw[if_neg hji];exact hI j om
 ·rintro⟨x,v⟩ next ⟨rfl,hl,hI⟩
  dsimp only at hl hI
  refine condT (λhc=>absurd hc om) (λ_=>?_)
  have hv:v=cD f s 0:=by
   refine tM (by rw[kx];omega) λj hj=>?_
   rw[hI j om]
   show _=at' ((range f.A.toNat).map (inS s)) (j:Int)
   simp[at',List.getD_eq_getElem?_getD,show j<f.A.toNat by omega]
  rw[hv]
  refine ea (n:=f.V.length) (λi=>((i:Int),cD f s i)) (λy=>y.1) 0 (λi=>om) rfl ?_ ?_
  ·intro i next hi hn
   have N:=fB (g.node i hi)
   have hlen:=N.len
   refine condT (λhc=>⟨⟨om,om⟩,?_⟩) (λhc=>absurd (show(i:Int)<(f.V.length:Int) by omega) hc)
   refine ea (n:=(at' f.V (i:Int)).M.length) (λj=>((cnt (at' f.V (i:Int)) (cD f s i) j:Int),(j:Int))) (λy=>y.2) 0 (λj=>om) rfl ?_ ?_
   ·intro j next2 hj hn2
    have ha:=N.arg j hj
    have hcl:=Ba (x:=at' f.V (i:Int)) (v:=cD f s i) j
    refine condT (λhc=>⟨⟨om,om⟩,⟨ha.1,by rw[kx];omega⟩,bf (λhb=>⟨zRg,zRg,?_⟩) (λhb=>⟨zRg,?_⟩)⟩) (λhc=>absurd (show(j:Int)<((at' f.V (i:Int)).M.length:Int) by omega) hc)
    ·rw[cnt,if_pos hb] at hn2;exact hn2
    ·rw[cnt,if_neg (by rw[hb];simp)] at hn2;exact hn2
   ·intro next2
    refine condT (λhc=>absurd hc om) (λ_=>?_)
    refine⟨λy=>y=gZ (at' f.V (i:Int)) (cD f s i),?_,?_⟩
    ·have k5:=N.k5
     have k0:=N.k0
     unfold gZ nJ
     refine bV (λh0=>by rw[if_pos h0]) (λh0=>bV (λh1=>by rw[if_neg h0,if_pos h1]) (λh1=>bV (λh2=>by rw[if_neg h0,if_neg h1,if_pos h2]) (λh2=>bV (λh3=>by rw[if_neg h0,if_neg h1,if_neg h2,if_pos h3]) (λh3=>bV (λh4=>by rw[if_neg h0,if_neg h1,if_neg h2,if_neg h3,if_pos h4]) (λh4=>bV (λh5=>by rw[if_neg h0,if_neg h1,if_neg h2,if_neg h3,if_neg h4]) (λh5=>?_))))))
     exact absurd (show(at' f.V (i:Int)).D=0\/(at' f.V (i:Int)).D=1\/(at' f.V (i:Int)).D=2\/(at' f.V (i:Int)).D=3\/(at' f.V (i:Int)).D=4\/(at' f.V (i:Int)).D=5 by omega) (by
      rintro(hh | hh | hh | hh | hh | hh)
      ·exact h0 hh
      ·exact h1 hh
      ·exact h2 hh
      ·exact h3 hh
      ·exact h4 hh
      ·exact h5 hh)
    ·rintro _ rfl
     refine⟨?_,zRg,hn⟩
     rw[length_append,kx,length_singleton]
     omega
  ·intro next
   exact condT (λhc=>absurd hc om) (λ_=>h)
theorem DV {n:Nat} (h:n<=24):2^n<=16777216:=le_trans (pow_le_pow_right om h) (by decide)
def xc (f:GFormula) (s:Int):Int:=if jT f≠0 then jT f else if s<0\/(2^f.A.toNat:Int)<=s then 3 else 0
theorem uh {f:GFormula} {s:Int} {Q:Option Int->Prop} (ht:rng f.F) (h:Q (my (xc f s))):kY f s Q:=by
 unfold xc at h
 refine fx ht ?_
 rw[eb]
 refine condT (λhc=>?_) (λhc=>?_)
 ·rw[if_pos hc] at h;exact h
 rw[if_neg hc] at h
 have g:=j9.1 (Decidable.not_not.1 hc)
 have v0:=g.v0
 have v24:=g.v24
 refine⟨λy=>y=decide (s<0\/(2^f.A.toNat:Int)<=s),?_,?_⟩
 ·refine condT (λhc=>(decide_eq_true (Or.inl hc)).symm) (λhc=>⟨⟨⟨om,om⟩,?_⟩,?_⟩)
  ·have:=DV (n:=f.A.toNat) om
   have e:(2^f.A.toNat:Int)=((2^f.A.toNat:Nat):Int):=by simp
   rw[Int.one_mul,e]
   generalize 2^f.A.toNat=z at this
   unfold rng;omega
  ·rw[Int.one_mul]
   exact decide_eq_decide.2 ⟨Or.inr,λhh=>hh.resolve_left hc⟩
 ·rintro _ rfl
  refine condT (λhc2=>?_) (λhc2=>?_)
  ·rw[if_pos hc2] at h;exact h
  ·rw[if_neg hc2] at h;exact h
theorem ui {f:GFormula} {s:Int} {Q:Bool->Option Int->Prop} (ht:rng f.F) (h1:xc f s≠0->Q false (some (xc f s))) (h2:xc f s=0->Q (FV f s.toNat) none):k_ f s Q:=by
 refine uh ht ?_
 rw[eb]
 refine condT (λhc=>?_) (λhc=>?_)
 ·rw[show my (xc f s)=some (xc f s) from if_neg hc];exact h1 hc
 ·have h3:=h2 (Decidable.not_not.1 hc)
  unfold xc at hc
  by_cases hm:jT f≠0
  ·rw[if_pos hm] at hc;exact absurd hm hc
  rw[if_neg hm] at hc
  have g:=j9.1 (Decidable.not_not.1 hm)
  have v0:=g.v0
  have v24:=g.v24
  have hs:0<=s/\s<(2^f.A.toNat:Int):=by
   by_cases hh:s<0\/(2^f.A.toNat:Int)<=s
   ·rw[if_pos hh] at hc;exact absurd (by decide) hc
   ·rw[not_or] at hh;exact⟨om,om⟩
  obtain⟨k,rfl⟩:=eq_ofNat_of_zero_le hs.1
  have hp:=DV (n:=f.A.toNat) om
  have hk:k<2^f.A.toNat:=by
   have:=hs.2
   exact_mod_cast this
  refine⟨_,sV g om rfl,⟨⟨g.top0,by rw[kx];have:=g.top;omega⟩,h3⟩⟩
theorem xH {x:GNode} {v w:List Bool}:∀j,(∀k:Nat,k<j->at' v (at' x.M (k:Int))=at' w (at' x.M (k:Int)))->cnt x v j=cnt x w j
 | 0,_=>rfl
 | j+1,h=>by rw[cnt,cnt,xH j (λk hk=>h k om),h j om]
theorem ny {f:GFormula} {s i:Nat} (v0:0<=f.A) (h:i<f.V.length):at' (cD f s f.V.length) (f.A+i)=gZ (at' f.V (i:Int)) (cD f s i):=by
 rw[jl (m:=i+1) om om _ om,cD]
 have e:f.A+(i:Int)=((cD f s i).length:Int):=by rw[kx];omega
 rw[e,ie]
theorem iH {f:GFormula} {s:Nat} {a:Int} (h0:0<=a) (h:a<f.A) (n:Nat):at' (cD f s n) a=inS s a.toNat:=by
 rw[jl (m:=0) h0 om n om]
 obtain⟨k,rfl⟩:=eq_ofNat_of_zero_le h0
 show at' ((range f.A.toNat).map (inS s)) (k:Int)=_
 simp[at',List.getD_eq_getElem?_getD,show k<f.A.toNat by omega]
def plE (o:List Int) (n:Int) (i:Nat):Int:=
 if at' o (i:Int)<0\/n<=at' o (i:Int) then 3 else if ∃k<i,at' o (k:Int)=at' o (i:Int) then 6 else 0
def t_ (o:List Int) (n:Int):Int:=if n<0\/24<n then 3 else if (o.length:Int)≠n then 11 else j4 (plE o n) o.length
theorem wY {o:List Int} {n:Int} {Q:Option Int->Prop} (h:Q (my (t_ o n))):nh o n Q:=by
 unfold t_ at h
 refine⟨λb=>b=decide (n<0\/24<n),condT (λh0=>?_) (λh0=>?_),λb hb=>?_⟩
 ·rw[decide_eq_true (.inl h0)]
 ·exact decide_eq_decide.2 om
 subst hb
 refine condT (λh0=>?_) (λh0=>fJ (λh2=>?_) (λh2=>?_))
 ·rw[if_pos h0] at h;exact h
 ·rw[if_neg h0,if_pos h2] at h;exact h
 ·rw[if_neg h0,if_neg om] at h
  subst h2
  refine⟨⟨om,om,om⟩,?_⟩
  refine dG (n:=o.length) (λi y=>(y.1=(i:Int)/\∀j,j<i->plE o o.length j=0)/\y.2.length=o.length/\∀v:Nat,v<o.length->(at' y.2 (v:Int)=true↔∃k<i,at' o (k:Int)=(v:Int))) (λy=>y.1) 0
   (λi y hy=>by rw[hy.1.1];omega) ⟨⟨rfl,λj hj=>absurd hj om⟩,by simp[bT],λv hv=>?_⟩ ?_ ?_
  ·constructor
   ·intro hb
    simp[at',bT,List.getD_eq_getElem?_getD,hv] at hb
   ·rintro⟨k,hk,_⟩;omega
  ·rintro i ⟨x,seen⟩ next hi ⟨⟨hx,hz⟩,hl,hs⟩ hn
   dsimp only at hx hl hs
   subst hx
   have hit:∀e,plE o o.length i=e->e≠0->Q (my e):=λe he hne=>by
    have:=hZ hz (by rw[he];exact hne) o.length hi
    rw[this,he] at h
    exact h
   refine condT (λ_=>⟨⟨om,om⟩,λb=>b=decide (at' o (i:Int)<0\/(o.length:Int)<=at' o (i:Int)),condT (λh3=>?_) (λh3=>?_),λb hb=>?_⟩) (λhc=>absurd (show(i:Int)<o.length by omega) hc)
   ·rw[decide_eq_true (.inl h3)]
   ·exact decide_eq_decide.2 om
   subst hb
   refine condT (λh3=>hit 3 (by rw[plE,if_pos h3]) (by decide)) (λh3=>⟨om,?_⟩)
   obtain⟨v,hv⟩:∃v:Nat,at' o (i:Int)=v:=⟨(at' o (i:Int)).toNat,om⟩
   have hvl:v<o.length:=om
   rw[hv]
   have hsv:=hs v hvl
   refine bf (λh4=>hit 6 (by rw[plE,if_neg h3,hv,if_pos (hsv.1 h4)]) (by decide)) (λh4=>⟨om,zRg,hn _ ⟨⟨by dsimp only;omega,λj hj=>?_⟩,by dsimp only;rw[dE];exact hl,λu hu=>?_⟩⟩)
   ·rcases lt_or_ge j i with h5 | h5
    ·exact hz j h5
    ·obtain rfl:j=i:=om
     rw[plE,if_neg h3,hv,if_neg (λhc=>by rw[hsv.2 hc] at h4;cases h4)]
   ·dsimp only
    rw[ib om]
    split
    ·rename_i he
     subst he
     exact⟨λ_=>⟨i,om,hv⟩,λ_=>rfl⟩
    ·rename_i he
     rw[hs u hu]
     constructor
     ·rintro⟨k,hk,hk'⟩;exact⟨k,om,hk'⟩
     ·rintro⟨k,hk,hk'⟩
      rcases lt_or_ge k i with h5 | h5
      ·exact⟨k,h5,hk'⟩
      ·obtain rfl:k=i:=om
       omega
  ·rintro⟨x,seen⟩ next ⟨⟨hx,hz⟩,_⟩
   dsimp only at hx
   subst hx
   refine condT (λhc=>absurd hc om) (λ_=>?_)
   rw[cq.2 hz] at h
   exact h
structure Or14 (o:List Int):Prop where
 le:o.length<=24
 rg:∀i:Nat,i<o.length->0<=at' o (i:Int)/\at' o (i:Int)<o.length
 inj:∀i j:Nat,i<o.length->j<o.length->at' o (i:Int)=at' o (j:Int)->i=j
theorem Cx {o:List Int} (h:t_ o o.length=0):Or14 o:=by
 unfold t_ at h
 split at h
 ·cases h
 ·rw[if_neg zSm] at h
  have hz:=cq.1 h
  have hp:∀i,i<o.length->(0<=at' o (i:Int)/\at' o (i:Int)<o.length)/\∀k,k<i->at' o (k:Int)≠at' o (i:Int):=λi hi=>by
   have:=hz i hi
   unfold plE at this
   split at this
   ·cases this
   ·split at this
    ·cases this
    ·rename_i h1 h2;exact⟨om,λk hk he=>h2 ⟨k,hk,he⟩⟩
  refine⟨om,λi hi=>(hp i hi).1,λi j hi hj he=>?_⟩
  rcases Nat.lt_trichotomy i j with h1 | h1 | h1
  ·exact absurd he ((hp j hj).2 i h1)
  ·exact h1
  ·exact absurd he.symm ((hp i hi).2 j h1)
theorem Fw {o:List Int} (h:Or14 o):t_ o o.length=0:=by
 have:=h.le
 unfold t_
 rw[if_neg om,if_neg zSm]
 refine cq.2 λi hi=>?_
 have:=h.rg i hi
 rw[plE,if_neg om,if_neg (λ⟨k,hk,he⟩=>by have:=h.inj k i om hi he;omega)]
theorem pf:∀(m:Nat) (l:List Nat),l.Nodup->(∀x∈l,x<m)->l.length<=m
 | 0,l,_,h=>by
  cases l with
  | nil=>simp
  | cons x l=>have:=h x zSm;omega
 | m+1,l,hd,h=>by
  by_cases hm:m∈l
  ·have h1:=pf m (l.erase m) (hd.erase m) (λx hx=>by
    have h2:=h x (List.mem_of_mem_erase hx)
    have h3:x≠m:=λhe=>by subst he;exact(hd.not_mem_erase) hx
    omega)
   have:=List.length_erase_of_mem hm
   omega
  ·have:=pf m l hd (λx hx=>by
    have h2:=h x hx
    have h3:x≠m:=λhe=>hm (he▸hx)
    omega)
   omega
theorem CB {l:List Nat} (hd:l.Nodup) (h:∀x∈l,x<l.length) {v:Nat} (hv:v<l.length):v∈l:=by
 by_cases hm:v∈l
 ·exact hm
 ·exfalso
  have h1:=pf l.length (v :: l) (List.nodup_cons.2 ⟨hm,hd⟩) (λx hx=>by
   rcases List.mem_cons.1 hx with rfl | hx
   ·exact hv
   ·exact h x hx)
  simp at h1
  omega
def jR (o:List Int):List Nat:=o.map toNat
def dx (o:List Int):Nat->Nat:=λv=>(jR o).idxOf v
section
variable {o:List Int}
theorem g_:(jR o).length=o.length:=by simp[jR]
theorem oe {i:Nat} (h:i<o.length):(jR o)[i]? = some (at' o (i:Int)).toNat:=by
 simp[jR,at',List.getD_eq_getElem?_getD,List.getElem?_eq_getElem h]
theorem Or14.nodup (h:Or14 o):(jR o).Nodup:=by
 rw[List.Nodup,List.pairwise_iff_getElem]
 intro i j hi hj hij he
 rw[g_] at hi hj
 have h1:=oe hi
 have h2:=oe hj
 rw[List.getElem?_eq_getElem (by rw[g_];exact hi)] at h1
 rw[List.getElem?_eq_getElem (by rw[g_];exact hj)] at h2
 have h3:=Option.some.inj h1
 have h4:=Option.some.inj h2
 have h5:=h.rg i hi
 have h6:=h.rg j hj
 have:=h.inj i j hi hj om
 omega
theorem Or14.all (h:Or14 o) {v:Nat} (hv:v<o.length):v∈jR o:=by
 refine CB h.nodup (λx hx=>?_) (by rw[g_];exact hv)
 obtain⟨i,hi⟩:=List.mem_iff_getElem?.1 hx
 have hil:i<o.length:=by have:=(List.getElem?_eq_some_iff.1 hi).1;rwa[g_] at this
 rw[oe hil] at hi
 have:=h.rg i hil
 rw[g_]
 have:=Option.some.inj hi
 omega
theorem Or14.lev_at (h:Or14 o) {i:Nat} (hi:i<o.length):dx o (at' o (i:Int)).toNat=i:=by
 have h1:=oe hi
 have hil:i<(jR o).length:=by rw[g_];exact hi
 rw[List.getElem?_eq_getElem hil] at h1
 unfold dx
 rw[<-Option.some.inj h1]
 exact h.nodup.idxOf_getElem i hil
theorem Or14.at_lev (h:Or14 o) {v:Nat} (hv:v<o.length):dx o v<o.length/\at' o (dx o v:Int)=v:=by
 have hm:=h.all hv
 have hl:dx o v<(jR o).length:=List.idxOf_lt_length_of_mem hm
 have hl':dx o v<o.length:=by rwa[g_] at hl
 refine⟨hl',?_⟩
 have h1:=oe hl'
 rw[List.getElem?_eq_getElem hl] at h1
 have h2:(jR o)[dx o v]=v:=List.getElem_idxOf hl
 rw[h2] at h1
 have:=h.rg _ hl'
 have:=Option.some.inj h1
 omega
theorem Or14.ord (h:Or14 o):OrdL o.length (dx o) (jR o):=by
 refine⟨⟨λi j hi hj he=>?_,λi hi=>(h.at_lev hi).1⟩,g_,λi v hi=>?_,λv hv=>?_⟩
 ·have h1:=(h.at_lev hi).2
  have h2:=(h.at_lev hj).2
  rw[he] at h1
  omega
 ·have hil:i<o.length:=by have:=(List.getElem?_eq_some_iff.1 hi).1;rwa[g_] at this
  rw[oe hil] at hi
  have h1:=Option.some.inj hi
  have h2:=h.rg i hil
  exact⟨om,by rw[<-h1];exact h.lev_at hil⟩
 ·have h1:=h.at_lev hv
  rw[oe h1.1,h1.2]
  rfl
end
section
variable {o:List Int} {N:List GDNode}
end
section
variable {N:List GDNode}
theorem EM {i:Nat} (hi:i<N.length):N[i]? = some (at' N (i:Int)):=by
 simp[at',List.getD_eq_getElem?_getD,List.getElem?_eq_getElem hi]
structure NB (N:List GDNode) (b:List Int) (ok:Bool) (next:Int) (seen:List Bool):Prop where
 nx:next=b.length
 ok:ok=true↔b=upto b.length
 len:seen.length=N.length
end
theorem C4 {e:Int} (h:e≠0):Option.isSome (my e)=true:=by simp[my,h]
theorem we {e:Int} (h:e≠0):my e=some e:=by simp[my,h]
structure VD (d:GDiagram):Prop where
 ord:Or14 d.Order
 wt:WT d.Order.length (dx d.Order) d.V
 root:Vd d.V d.Z
 le:d.V.length<=4096
 num:Jd d.V d.Z.toNat []=upto d.V.length
def wm (o:List Int) (f:Asg->Bool):GDiagram:=⟨o,(dD (jR o) f []).1,(dD (jR o) f []).2⟩
theorem EL:(2:Nat)^62=4611686018427387904:=rfl
theorem tI {a:Nat} (h:a<2^62):(BitVec.ofInt 64 (a:Int)).toNat=a:=by
 rw[BitVec.toNat_ofInt]
 rw[EL] at h
 omega
theorem GU {a:Nat} (h:a<2^62):IntKind.i64.wrap (a:Int)=(a:Int):=by
 rw[EL] at h
 exact jt zRg
theorem F_ {a b:Nat} (ha:a<2^62) (hb:b<2^62):bits .or .i64 (a:Int) (b:Int)=((a ||| b:Nat):Int):=by
 show IntKind.i64.wrap (((BitVec.ofInt 64 (a:Int)) ||| (BitVec.ofInt 64 (b:Int))).toNat:Int)=_
 rw[BitVec.toNat_or,tI ha,tI hb]
 exact GU (Nat.or_lt_two_pow ha hb)
theorem yq {s i:Nat}:inS s i=s.testBit i:=by rw[inS,Nat.testBit_eq_decide_div_mod_eq]
def jN (p:Nat->Bool):Nat->Nat
 | 0=>0
 | n+1=>if p n=true then jN p n+2^n else jN p n
theorem pT {p:Nat->Bool}:∀n,jN p n<2^n
 | 0=>by simp[jN]
 | n+1=>by
  have:=pT (p:=p) n
  rw[jN,Nat.pow_succ]
  split<;>omega
theorem yF {p:Nat->Bool} (n:Nat):jN p n ||| 2^n=jN p n+2^n:=by
 have:=Nat.two_pow_add_eq_or_of_lt (pT (p:=p) n) 1
 rw[mul_one] at this
 rw[Nat.or_comm,<-this,Nat.add_comm]
theorem px {p:Nat->Bool}:∀n i,(jN p n).testBit i=(decide (i<n) && p i)
 | 0,i=>by simp[jN]
 | n+1,i=>by
  rw[jN]
  rcases Nat.lt_trichotomy i n with h | h | h
  ·have h1:(decide (i<n+1) && p i)=(decide (i<n) && p i):=by rw[decide_eq_true h,decide_eq_true om]
   rw[h1,<-px n i]
   split
   ·rw[<-yF,Nat.testBit_or,Nat.testBit_two_pow_of_ne om,Bool.or_false]
   ·rfl
  ·subst h
   rw[decide_eq_true (Nat.lt_succ_self i),Bool.true_and]
   have h0:(jN p i).testBit i=false:=Nat.testBit_lt_two_pow (pT i)
   cases hp:p i with
   | true=>rw[if_pos rfl,<-yF,Nat.testBit_or,h0,Nat.testBit_two_pow_self,Bool.false_or]
   | false=>rw[if_neg zSm];exact h0
  ·rw[decide_eq_false om,Bool.false_and]
   refine Nat.testBit_lt_two_pow (Nat.lt_of_lt_of_le (m:=2^(n+1)) ?_ (pow_le_pow_right om om))
   have:=pT (p:=p) n
   rw[Nat.pow_succ]
   split<;>omega
theorem yG {p:Nat->Bool} {n i:Nat} (h:i<n):inS (jN p n) i=p i:=by rw[yq,px,decide_eq_true h,Bool.true_and]
theorem DU {n:Nat} (h:n<62):2^n<2^62:=Nat.pow_lt_pow_right om h
theorem Fy {p:Nat->Bool} {n:Nat} (h:n<62):bits .or .i64 (jN p n:Int) (1*2^(toNat (n:Int)))=((jN p n+2^n:Nat):Int):=by
 have e:(1*2^(toNat (n:Int)):Int)=((2^n:Nat):Int):=by simp
 rw[e,F_ (Nat.lt_trans (pT n) (DU h)) (DU h),yF]
theorem Hc {n:Nat} (h:n<62):((0:Int)<=(n:Int)/\(n:Int)<=64)/\rng (1*2^(toNat (n:Int))):=by
 refine⟨om,?_⟩
 have e:(1*2^(toNat (n:Int)):Int)=((2^n:Nat):Int):=by simp
 have h1:=DU h
 rw[EL] at h1
 rw[e]
 generalize 2^n=z at h1 ⊢
 unfold rng;omega
def stA (s:Nat):Asg:=λv=>inS s v
theorem wo {p q:Nat->Bool}:∀ {n:Nat},(∀v,v<n->p v=q v)->jN p n=jN q n
 | 0,_=>rfl
 | n+1,h=>by rw[jN,jN,wo (n:=n) (λv hv=>h v om),h n om]
theorem qN {n:Nat} (h:n<=24):2^n<=16777216:=by
 have:=pow_le_pow_right (n:=2) om h
 exact this
section
variable {o:List Int} {N:List GDNode}
theorem wz:∀(vs:List Nat) (f:Asg->Bool) (N:List GDNode),(dD vs f N).1.length+1<=N.length+2^vs.length
 | [],f,N=>by simp[dD]
 | v :: vs,f,N=>by
  have h1:=wz vs (λσ=>f (cE σ v false)) N
  have h2:=wz vs (λσ=>f (cE σ v true)) (dD vs (λσ=>f (cE σ v false)) N).1
  rw[dD,List.length_cons,Nat.pow_succ]
  unfold mkD
  split
  ·simp only;omega
  ·split
   ·simp only;omega
   ·simp only[length_append,length_singleton];omega
end
end Go.Gg
