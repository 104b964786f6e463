/- What the functions on natural numbers compute, told of their formulas: part A. Conditions: none. -/
import Derived.Test.YtbnjpdocceckeaaGreatGc
import Derived.KernelRfl
import Derived.Test.YtbnjpdocceckeaaGreatWa
import Derived.Test.YtbnjpdocceckeaaGreatGd
set_option linter.all false
open List (length_append length_singleton range replicate)
open Int (add_comm add_mul eq_ofNat_of_zero_le le_of_lt le_refl lt_or_le mul_comm mul_le_mul mul_le_mul_of_nonneg_right mul_nonneg pow_succ sub_mul toNat toNat_natCast)
open Nat (gcd le_trans lt_of_lt_of_le lt_or_ge pow_add pow_le_pow_right pow_pos strongRecOn)
open Option (isSome)
namespace Go.Gg
theorem Cb(l:List Int)(i:Int):P9 l i=l.getD i.toNat 0:=rfl
theorem oB(l:List Int)(i:Nat):P9 l (i:Int)=l.getD i 0:=rfl
variable{α:Type}
theorem gQ(l:List α)(i:Nat)(x:α):Qt l (i:Int) x=l.set i x:=rfl
theorem Fk(n:Nat)(x:α):bA (n:Int) x=replicate n x:=rfl
theorem ol{f:(α->Prop)->Prop}{k:α->Prop}(h:f k):bV f k:=⟨k,h,λ_ h=>h⟩
theorem k_{e:α}{k:α->Prop}(h:k e):kf e k:=λ_ hv=>hv▸h
theorem Qb{c:Prop}[Decidable c]{a b:Prop}(h1:c->a)(h2:¬c->b):af (decide c) a b:=⟨λh=>h1 (of_decide_eq_true h),λh=>h2 (of_decide_eq_false h)⟩
theorem bk[DecidableEq α]{x y:α}{a b:Prop}(h1:x=y->a)(h2:x≠y->b):af (x==y) a b:=⟨λh=>h1 (by simpa using h),λh=>h2 (by simpa using h)⟩
theorem iY[DecidableEq α]{x y:α}{a b:Prop}(h1:x≠y->a)(h2:x=y->b):af (x != y) a b:=⟨λh=>h1 (by simpa using h),λh=>h2 (by simpa using h)⟩
variable{n:Nat}
theorem yt{b:Nat}(hb:b<=200)(h:n<=1099511627776):jo b (n:Int) (n:Int):=⟨om,le_refl _,by
 have:(b:Int)*(n:Int)<=200*1099511627776:=mul_le_mul om om om om;omega,om⟩
abbrev SM(l:List Int):Prop:=l.length<=1099511627776
variable{i:Nat}
theorem eJ{a:List Int}{Q:Int->Prop}(hw:ba a)(h:Q (a.getD i 0)):da a (i:Int) Q:=by
 refine Qb (λhc=>⟨⟨om,hc⟩,?_⟩) (λhc=>?_)
 ·rw[oB];have:=hw i;rw[Qj om om];exact h
 ·simp_all
variable{Q:List Int->Prop}
theorem cp{a:List Int}(hw:ba a)(hl:SM a)(h:Q (lim (val a))):bO a Q:=by
 refine⟨λn=>∃j:Nat,n=j/\j<=a.length/\(∀i,j<=i->i<a.length->a.getD i 0=0)/\(0<j->a.getD (j-1) 0≠0),?_,?_⟩
 ·refine⟨λn=>∃j:Nat,n=j/\j<=a.length/\(∀i,j<=i->i<a.length->a.getD i 0=0),λn=>n.toNat,⟨a.length,rfl,Nat.le_refl _,λi h1 h2=>om⟩,?_⟩;rintro n ⟨j,rfl,hj,hz⟩;refine Qb (λhc=>⟨Qo,⟨om,om⟩,bk (λhe=>⟨Qo,⟨j-1,om,om,λi h1 h2=>?_⟩,by dsimp only;omega⟩) (λhe=>⟨j,rfl,hj,hz,λ_=>?_⟩)⟩) (λhc=>⟨j,rfl,hj,hz,λh0=>om⟩)
  ·by_cases hi:i=j-1;·simp_all [Cb]
   ·exact hz i om h2
  ·simp_all [Cb]
 ·rintro n ⟨j,rfl,hj,hz,R9⟩;have e:=yC hw hj hz R9;refine bk (λhc=>?_) (λhc=>⟨⟨om,om,om⟩,?_,?_⟩)
  ·simp_all
  ·grind [fV]
  ·grind [fV]
theorem l_{a b:List Int}{Q:Int->Prop}(ha:ba a)(hb:ba b)(la:SM a)(lb:SM b)(h:Q (wR (val a) (val b))):ft a b Q:=by
 refine cp ha la (cp hb lb ?_);have b1:=iF ha;have b2:=iF hb;have w1:=bc (val a);have w2:=bc (val b);have v1:=eR w1;have v2:=eR w2;rw[bQ]at v1 v2;generalize hA:lim (val a)=A at *
 generalize hB:lim (val b)=B at *
 have QH:A.length<B.length->val a<val b:=λh=>by grind [lt_or_ge,f_]
 have hgt:B.length<A.length->val b<val a:=λh=>by grind [lt_or_ge,f_]
 unfold SM at la lb;refine iY (λhc=>Qb (λh1=>?_) (λh1=>?_)) (λhc=>⟨Qo,?_⟩)
 ·grind [wR]
 ·grind [wR]
 ·have hlen:A.length=B.length:=om;refine⟨λi=>∃j:Nat,i=(j:Int)-1/\j<=A.length/\(∀k,j<=k->k<A.length->A.getD k 0=B.getD k 0),λi=>(i+1).toNat,⟨A.length,rfl,Nat.le_refl _,λk h1 h2=>om⟩,?_⟩;rintro i ⟨j,rfl,hj,he⟩;have hj1:((j:Int)-1).toNat=j-1:=om;refine Qb (λhc=>⟨⟨om,om⟩,⟨om,om⟩,?_⟩) (λhc=>?_)
  ·rw[Cb,Cb,hj1];refine Qb (λh1=>?_) (λh1=>⟨⟨om,om⟩,⟨om,om⟩,Qb (λh2=>?_) (λh2=>⟨Qo,⟨j-1,om,om,λk h3 h4=>?_⟩,by dsimp only;omega⟩)⟩);·have:=LH w1 w2 (i:=j-1) (n:=A.length) om h1 (λk h1 h2=>he k om h2);rw[<-hlen]at v2;rw[wR,if_pos om]at h;exact h
   ·have:=LH w2 w1 (i:=j-1) (n:=A.length) om h2 (λk h1 h2=>(he k om h2).symm);rw[<-hlen]at v2;rw[wR,if_neg om,if_neg om]at h;exact h
   ·grind
  ·grind [pG,wR]
theorem zW{a b:List Int}(ha:ba a)(hb:ba b)(la:SM a)(lb:a.length<=1099511627775/\b.length<=1099511627775)(h:Q (lim (val a+val b))):md a b Q:=by
 unfold SM at la;obtain⟨n,hn0⟩:∃n,n=max a.length b.length+1:=⟨_,rfl⟩;have hn:max (a.length:Int) (b.length:Int)+1=(n:Int):=om;unfold md;rw[hn];refine⟨Qo,yt om om,?_⟩;rw[toNat_natCast];refine⟨λy=>∃i:Nat,y.2.1=i/\i<=n/\y.2.2.length=n/\ba y.2.2/\0<=y.1/\y.1<=1/\pv y.2.2 i+y.1*4294967296^i=pv a i+pv b i,λy=>n-y.2.1.toNat,⟨0,rfl,om,by simp[bA],ba.rep n,om,om,by simp[pv]⟩,?_⟩;rintro⟨c,x,out⟩ ⟨i,hx,hi,hlen,hw,Vr,UO,Tp⟩;simp only at hx hi hlen hw Vr UO Tp;subst hx;have Xj:=ha i;have hxm:=hb i;refine Qb (λQH=>?_) (λTV=>?_)
 ·refine eJ ha (eJ hb (k_ ⟨⟨om,om⟩,Qo,?_,?_⟩));·simp (disch:=omega) only[gQ,Qj,wrap_u32];refine⟨i+1,om,om,by simp[hlen],hw.set _ om om,by show 0<=_/4294967296;omega,by show _/4294967296<=1;omega,?_⟩;show pv (out.set i _) (i+1)+_/4294967296*_=_;rw[ya om,pow_succ,pv,pv,Int.add_assoc,wW];have:=add_mul c (a.getD i 0+b.getD i 0) (4294967296^i);have:=add_mul (a.getD i 0) (b.getD i 0) (4294967296^i);omega
  ·grind
 ·obtain rfl:i=n:=om;refine cp hw (by unfold SM;omega) ?_;have e:val out=val a+val b:=by have a1:=oM hw (i:=i) om;have a2:=oM ha (i:=i) om;have a3:=oM hb (i:=i) om;have b2:=As (l:=a) (i-1) om;have b3:=As (l:=b) (i-1) om;have b4:=As (l:=a) i om;have b5:=As (l:=b) i om;have c2:=(cz ha (i-1)).2;have c3:=(cz hb (i-1)).2;have WD:i=i-1+1:=om;have hc:=Tp;rw[WD,pow_succ,<-WD]at hc;have:=ED hc om om om Vr UO (lw _);subst this;omega
  rw[e];exact h
theorem sJ{a b:List Int}{Q:List Int->Option Int->Prop}(ha:ba a)(hb:ba b)(la:SM a)(lb:SM b)(h1:val a<val b->Q [] (some 3))(h2:val b<=val a->Q (lim (val a-val b)) none):lV a b Q:=by
 refine l_ ha hb la lb (Qb (λhc=>h1 (uy.1 hc)) (λhc=>⟨yt om la,?_⟩));have TV:val b<=val a:=by have:=mt uy.2 hc;omega
 have h:=h2 TV;clear h1 h2;unfold SM at la lb;rw[toNat_natCast];refine⟨λy=>∃i:Nat,y.2.1=i/\i<=a.length/\y.2.2.length=a.length/\ba y.2.2/\0<=y.1/\y.1<=1/\pv y.2.2 i=pv a i-pv b i+y.1*4294967296^i,λy=>a.length-y.2.1.toNat,⟨0,rfl,om,by simp[bA],ba.rep _,om,om,by simp[pv]⟩,?_⟩;rintro⟨c,x,out⟩ ⟨i,hx,hi,hlen,hw,V_,YI,Tp⟩;simp only at hx hi hlen hw V_ YI Tp;subst hx;have Xj:=ha i;have hxm:=hb i;obtain⟨q1,q2,q3⟩:=CD (a.getD i 0) (b.getD i 0) c Xj hxm ⟨V_,YI⟩;refine Qb (λQH=>eJ ha (eJ hb (k_ ⟨⟨om,om⟩,Qo,?_,by dsimp only;omega⟩))) (λTV=>?_)
 ·simp only[gQ,wrap_u32];generalize IntKind.u64.wrap (IntKind.u64.wrap (a.getD i 0-b.getD i 0)-c)=d at *
  have e63:d/2^toNat 63=d/9223372036854775808:=rfl;refine⟨i+1,om,om,by simp[hlen],hw.set _ om om,by simpa only[e63]using q2,by simpa only[e63]using q3,?_⟩;simp only[e63];rw[ya om,pow_succ,pv,pv,Tp];have e:d%4294967296=a.getD i 0-b.getD i 0-c+4294967296*(d/9223372036854775808):=om;rw[e];generalize d/9223372036854775808=d';have a1:=add_mul (a.getD i 0-b.getD i 0-c) (4294967296*d') (4294967296^i);have a2:=sub_mul (a.getD i 0-b.getD i 0) c (4294967296^i);have a3:=sub_mul (a.getD i 0) (b.getD i 0) (4294967296^i);have a4:4294967296*d'*4294967296^i=d'*(4294967296^i*4294967296):=by grind
  omega
 ·obtain rfl:i=a.length:=om;refine cp hw (by unfold SM;omega) ?_;have e:val out=val a-val b:=by
   have a1:=oM hw (i:=a.length) om;have a2:=eR ha;have a3:=cz ha a.length;have a4:=cz hw a.length;have a5:=cz hb a.length;have a6:=eR hb;rcases lt_or_ge a.length b.length with h|h
   ·have hm1:=uV hb (Nat.le_of_lt h);rcases (by omega:c=0\/c=1)with rfl|rfl
    ·
     have hz:pv b b.length=pv b a.length:=by refine w_ hb (Nat.le_of_lt h) ?_;omega
     omega
    ·omega
   ·have hm1:=oM hb h;rcases (by omega:c=0\/c=1)with rfl|rfl<;>omega
  rw[e];exact h
theorem jk{a b:List Int}(ha:ba a)(hb:ba b)(la:a.length+b.length<=1099511627776)(h:Q (lim (val a*val b))):fr a b Q:=by
 obtain⟨N,hN⟩:∃N,N=a.length+b.length:=⟨_,rfl⟩;have hNi:(a.length:Int)+(b.length:Int)=(N:Int):=om;unfold fr;rw[hNi];refine⟨Qo,yt om om,?_⟩
 refine⟨λy=>∃i:Nat,y.1=i/\i<=a.length/\y.2.length=N/\ba y.2/\(∀p,i+b.length<=p->y.2.getD p 0=0)/\pv y.2 N=pv a i*pv b b.length,λy=>a.length-y.1.toNat,
  ⟨0,rfl,om,by simp[bA],ba.rep _,λp hp=>by rw[Fk,List.getD_eq_getElem?_getD,List.getElem?_replicate];split<;>rfl,by rw[Fk,yb];simp[pv]⟩,?_⟩
 rintro⟨x,out⟩ ⟨i,hx,hi,hlen,hw,hz,Tp⟩;simp only at hx hi hlen hw hz Tp;subst hx;have XU:=ha i;refine Qb (λQH=>⟨⟨om,QH⟩,?_⟩) (λTV=>?_)
 ·refine⟨λy=>∃k:Nat,y.2.1=k/\k<=b.length/\y.2.2.length=N/\ba y.2.2/\(∀p,i+b.length<=p->y.2.2.getD p 0=0)/\0<=y.1/\y.1<4294967296/\
    pv y.2.2 N+y.1*4294967296^(i+k)=pv a i*pv b b.length+a.getD i 0*4294967296^i*pv b k,λy=>b.length-y.2.1.toNat,
   ⟨0,rfl,om,hlen,hw,hz,om,om,by simp[pv,Tp]⟩,?_⟩
  clear Tp hz hw hlen h;rintro⟨c,x1,UW⟩ ⟨k,hx,hk,hlen,hw,hz,Vr,UO,Tp⟩;simp only at hx hk hlen hw hz Vr UO Tp;subst hx;have hy:=hb k;have ho:=hw (i+k);obtain⟨q1,q2⟩:=IK XU hy;have eik:(i:Int)+(k:Int)=((i+k:Nat):Int):=om;have eib:(i:Int)+(b.length:Int)=((i+b.length:Nat):Int):=om;refine Qb (λaaW=>⟨⟨om,aaW⟩,Qo,⟨om,om⟩,k_ ⟨Qo,⟨om,om⟩,Qo,?_,by dsimp only;omega⟩⟩) (λamJ=>⟨Qo,⟨om,om⟩,Qo,?_,by dsimp only;omega⟩)
  ·simp only[eik,oB,gQ];simp (disch:=omega) only[Qj,wrap_u32];have Wq:∀z:Int,z/2^toNat 32=z/4294967296:=λ_=>rfl
   simp only[Wq];generalize hv:c+(a.getD i 0*b.getD k 0+UW.getD (i+k) 0)=v;refine⟨k+1,om,om,by simp[hlen],hw.set _ om om,λp hp=>?_,by show 0<=v/4294967296;omega,by show v/4294967296<4294967296;omega,?_⟩;·grind
   ·show pv (UW.set (i+k) (v%4294967296)) N+v/4294967296*4294967296^(i+(k+1))=_;rw[mr om N om,pv,<-Nat.add_assoc,pow_succ,Int.mul_add,<-Int.add_assoc,<-Tp];have s1:=wW v (4294967296^(i+k));have s2:=sub_mul (v%4294967296) (UW.getD (i+k) 0) (4294967296^(i+k));have s3:v*4294967296^(i+k)=c*4294967296^(i+k)+(a.getD i 0*4294967296^i*(b.getD k 0*4294967296^k)+UW.getD (i+k) 0*4294967296^(i+k)):=by grind
    omega
  ·obtain rfl:k=b.length:=om;simp only[eib,gQ,wrap_u32];have hcm:c%4294967296=c:=om;rw[hcm];refine⟨i+1,om,om,by simp[hlen],hw.set _ om om,λp hp=>?_,?_⟩;·grind [iG]
   ·grind [pv,mr]
 ·grind [cp,eR]
theorem Im{x y:Nat}(hx:x<2^i)(hy:2^i ∣ y):y ||| x=y+x:=by obtain⟨z,rfl⟩:=hy;rw[Nat.mul_comm,<-Nat.shiftLeft_eq,Nat.shiftLeft_add_eq_or_of_lt hx]
variable{y:Int}
theorem BH{x:Int}(i:Nat)(hx:0<=x)(XU:x<2^i)(hy:0<=y)(hyi:y%2^i=0)(hs:y+x<18446744073709551616):bits .or .u64 y x=y+x:=by
 obtain⟨m,rfl⟩:=eq_ofNat_of_zero_le hx;obtain⟨n,rfl⟩:=eq_ofNat_of_zero_le hy;have h1:m<2^i:=by exact_mod_cast XU
 have h2:2^i ∣ n:=by grind [Nat.dvd_of_mod_eq_zero]
 have h3:=Im h1 h2;show IntKind.u64.wrap (((BitVec.ofInt 64 (n:Int)) ||| (BitVec.ofInt 64 (m:Int))).toNat:Int)=_;rw[Cn,BitVec.toNat_or,BitVec.toNat_ofInt,BitVec.toNat_ofInt];have e1:((n:Int)%((2^64:Nat):Int)).toNat=n:=om;have e2:((m:Int)%((2^64:Nat):Int)).toNat=m:=om;rw[e1,e2,h3];omega
theorem Kp{x:Int}(i:Nat)(hx:0<=x)(XU:x<2^i)(hy:0<=y)(hyi:y%2^i=0)(hs:y+x<18446744073709551616):bits .or .u64 x y=y+x:=by rw[<-BH i hx XU hy hyi hs];show IntKind.u64.wrap (((BitVec.ofInt 64 x) ||| (BitVec.ofInt 64 y)).toNat:Int)=IntKind.u64.wrap (((BitVec.ofInt 64 y) ||| (BitVec.ofInt 64 x)).toNat:Int);rw[BitVec.or_comm]
theorem Kq{x:Int}(i:Nat)(hx:0<=x)(XU:x<2^i)(hy:0<=y)(hyi:y%2^i=0)(hs:y+x<4294967296):bits .or .u32 x y=y+x:=by
 obtain⟨m,rfl⟩:=eq_ofNat_of_zero_le hx;obtain⟨n,rfl⟩:=eq_ofNat_of_zero_le hy;have h1:m<2^i:=by exact_mod_cast XU
 have h2:2^i ∣ n:=by grind [Nat.dvd_of_mod_eq_zero]
 have h3:=Im h1 h2;show IntKind.u32.wrap (((BitVec.ofInt 32 (m:Int)) ||| (BitVec.ofInt 32 (n:Int))).toNat:Int)=_;rw[wrap_u32,BitVec.toNat_or,BitVec.toNat_ofInt,BitVec.toNat_ofInt];have e1:((n:Int)%((2^32:Nat):Int)).toNat=n:=om;have e2:((m:Int)%((2^32:Nat):Int)).toNat=m:=om;rw[e1,e2,Nat.or_comm,h3];omega
def dE(n:Nat):Nat:=if n=0 then 0 else n.log2+1
theorem GW:dE 0=0:=rfl
theorem xr:n<2^dE n:=by grind [dE,Nat.lt_log2_self]
theorem sg(h:n≠0):2^(dE n-1)<=n:=by grind [dE,Nat.log2_self_le]
variable{k:Nat}
theorem AP(h:n<2^k)(h':k≠0->2^(k-1)<=n):dE n=k:=by
 by_cases h0:n=0
 ·subst h0;cases k with
  | zero=>rfl
  | succ k=>have:=h' om;have:0<2^k:=pow_pos om;simp at *
 ·have a:=xr (n:=n);have b:=sg h0;have hk:k≠0:=by rintro rfl;simp at h;omega
  have c:=h' hk;have hb:dE n≠0:=by grind
  rcases Nat.lt_trichotomy (dE n) k with QH|he|hgt;·have:2^dE n<=2^(k-1):=pow_le_pow_right om om;omega
  ·exact he
  ·have:2^k<=2^(dE n-1):=pow_le_pow_right om om;omega
theorem yZ(h:2^k<=n):dE n=dE (n/2^k)+k:=by
 have hp:0<2^k:=pow_pos om;have hq:n/2^k≠0:=by have:=Nat.div_pos h hp;omega
 have a:=xr (n:=n/2^k);have b:=sg hq;have hb:dE (n/2^k)≠0:=by grind
 refine AP ?_ (λ_=>?_)
 ·grind [Nat.div_lt_iff_lt_mul]
 ·have e:dE (n/2^k)+k-1=(dE (n/2^k)-1)+k:=om;rw[e,pow_add];rw[Nat.le_div_iff_mul_le hp]at b;exact b
theorem JV:(range 256).all (λk=>pq dI k==(dE k:Int))=true:=by kernel_rfl
theorem Mz(h:k<256):pq dI k=(dE k:Int):=by grind [JV]
theorem HG:dI.size=256:=by kernel_rfl
theorem FN{x:Nat}{Q:Int->Prop}(hx:x<4294967296)(h:Q (dE x)):im (x:Int) Q:=by
 refine⟨λy=>∃z k:Nat,y=((z:Int),(k:Int))/\z<65536/\k<=16/\dE x=dE z+k,?_,?_⟩
 ·refine Qb (λhc=>⟨x/65536,16,?_,om,om,?_⟩) (λhc=>⟨x,0,rfl,om,om,rfl⟩)
  ·simp_all
  ·exact yZ (k:=16) om
 ·rintro _ ⟨z,k,rfl,hz,hk,hb⟩;refine⟨λy=>∃z k:Nat,y=((z:Int),(k:Int))/\z<256/\k<=24/\dE x=dE z+k,?_,?_⟩
  ·refine Qb (λhc=>⟨Qo,z/256,k+8,?_,om,om,?_⟩) (λhc=>⟨z,k,rfl,om,om,hb⟩)
   ·simp_all
   ·have h8:=yZ (n:=z) (k:=8) om;have e:z/2^8=z/256:=rfl;rw[e]at h8;omega
  ·rintro _ ⟨z,k,rfl,hz,hk,hb⟩;show(_/\_);have hw:IntKind.u8.wrap (z:Int)=z:=by rw[wrap_u8];omega
   have Y_:(dE z:Int)<=8:=by
    have:dE z<=8:=by
     by_cases h0:z=0;·subst h0;simp[dE]
     ·have:=sg h0;rcases lt_or_ge 8 (dE z)with h8|h8;·have:2^8<=2^(dE z-1):=pow_le_pow_right om om;omega
      ·exact h8
    omega
   rw[hw,HG];have e:(toNat (z:Int))=z:=om;rw[e,Mz hz,RG Qo];refine⟨⟨om,om⟩,Qo,k_ ?_⟩;have:(k:Int)+(dE z:Int)=((dE x:Nat):Int):=om;rw[this];exact h
theorem vI{x:Nat}(hx:x<4294967296):dE x<=32:=by
 by_cases h0:x=0;·subst h0;simp[dE]
 ·have:=sg h0;rcases lt_or_ge 32 (dE x)with h8|h8;·have:2^32<=2^(dE x-1):=pow_le_pow_right om om;omega
  ·exact h8
theorem Nb{x:Nat}{Q:Int->Prop}(hx:x<4294967296)(h:Q ((32-dE x:Nat):Int)):fG (x:Int) Q:=by refine FN hx ?_;have h1:=vI hx;refine⟨Qo,?_⟩;have:(32:Int)-(dE x:Int)=((32-dE x:Nat):Int):=om;rw[this];exact h
theorem Ag(h:n<=32):(2:Int)^n*2^(32-n)=4294967296:=by rw[<-Int.pow_add];have:n+(32-n)=32:=om;rw[this];rfl
theorem pI(n:Nat):(0:Int)<2^n:=Int.pow_pos om
theorem rv{a:List Int}(ha:ba a)(la:a.length<=1099511627775)(hn:n<=32)(h:∀out,ba out->out.length=a.length+1->val out=val a*2^n->Q out):fE a (n:Int) Q:=by
 have hL:(a.length:Int)+1=((a.length+1:Nat):Int):=om;unfold fE;rw[hL];have hs:=Ag hn;have hpp:=pI n;have hqp:=pI (32-n);generalize hp:(2:Int)^n=p at *
 generalize (2:Int)^(32-n)=q at *
 have agZ:p<=4294967296:=by have:p*1<=p*q:=Int.mul_le_mul_of_nonneg_left om om;omega
 have ahy:p ∣ 4294967296:=⟨q,hs.symm⟩
 refine⟨Qo,yt om om,λy=>∃i:Nat,y.1=i/\i<=a.length/\y.2.length=a.length+1/\ba y.2/\(∀k,i<k->y.2.getD k 0=0)/\y.2.getD i 0<p/\pv y.2 (i+1)=pv a i*p,λy=>a.length-y.1.toNat,
  ⟨0,rfl,om,by simp[bA],ba.rep _,λk hk=>?_,?_,?_⟩,?_⟩
 ·show(replicate (a.length+1) (0:Int)).getD k 0=0;rw[List.getD_eq_getElem?_getD,List.getElem?_replicate];split<;>rfl
 ·show(replicate (a.length+1) (0:Int)).getD 0 0<p;simp;omega
 ·show pv (replicate (a.length+1) (0:Int)) 1=_;rw[yb];simp[pv]
 rintro⟨x,out⟩ ⟨i,hx,hi,hlen,hw,hz,Vn,Tp⟩;simp only at hx hi hlen hw hz Vn Tp;subst hx;have XU:=ha i;have Z6:=hw i;refine Qb (λQH=>⟨⟨om,QH⟩,⟨om,om⟩,?_⟩) (λTV=>?_)
 ·rw[oB,toNat_natCast,hp];have hy0:0<=a.getD i 0*p:=mul_nonneg XU.1 om;have hy1:a.getD i 0*p<4294967296*p:=Int.mul_lt_mul_of_pos_right XU.2 hpp;have hy2:4294967296*p<=4294967296*4294967296:=Int.mul_le_mul_of_nonneg_left agZ om;rw[Qj XU.1 om,Qj hy0 om];refine k_ ?_;have hdy:p ∣ a.getD i 0*p:=⟨_,mul_comm _ _⟩;have Sx:a.getD i 0*p/4294967296<p:=om;generalize hv:a.getD i 0*p=y at *
  refine⟨⟨om,om⟩,⟨om,om⟩,Qo,⟨om,om⟩,Qo,?_,by dsimp only;omega⟩;have e1:(i:Int)+1=((i+1:Nat):Int):=om;have Wq:y/2^toNat 32=y/4294967296:=rfl;have hm:(y%4294967296)%p=0:=by grind [Int.emod_emod_of_dvd,Int.emod_eq_zero_of_dvd]
  have hh0:0<=y/4294967296:=om;have hor:bits .or .u32 (out.getD i 0) (y%4294967296)=y%4294967296+out.getD i 0:=by
   refine Kq n Z6.1 (by rw[hp];exact Vn) om (by rw[hp];exact hm) ?_;obtain⟨z,Y_⟩:=Int.dvd_of_emod_eq_zero hm;have:z<q:=by
    rcases lt_or_le z q with h1|h1;·exact h1
    ·have:p*q<=p*z:=Int.mul_le_mul_of_nonneg_left h1 om;omega
   have:p*z<=p*(q-1):=Int.mul_le_mul_of_nonneg_left om om;rw[Int.mul_sub,hs]at this;omega
  rw[e1,oB,gQ,gQ,Wq,wrap_u32,wrap_u32,hor];have Sr:y%4294967296+out.getD i 0<4294967296:=by
   obtain⟨z,Y_⟩:=Int.dvd_of_emod_eq_zero hm;have:z<q:=by
    rcases lt_or_le z q with h1|h1;·exact h1
    ·have:p*q<=p*z:=Int.mul_le_mul_of_nonneg_left h1 om;omega
   have:p*z<=p*(q-1):=Int.mul_le_mul_of_nonneg_left om om;rw[Int.mul_sub,hs]at this;omega
  have aaV:y/4294967296%4294967296=y/4294967296:=om;rw[aaV];refine⟨i+1,rfl,om,by simp[hlen],(hw.set _ om om).set _ hh0 om,λk hk=>?_,?_,?_⟩;·grind [iG]
  ·simp_all
  ·show pv ((out.set i _).set (i+1) _) (i+1+1)=_;rw[ya (by simp;omega),ya om,pv,pow_succ];rw[pv]at Tp;have s4:=add_mul (pv a i) (a.getD i 0*4294967296^i) p;have s1:=wW y (4294967296^i);have s2:=add_mul (y%4294967296) (out.getD i 0) (4294967296^i);have s3:a.getD i 0*4294967296^i*p=y*4294967296^i:=by grind
   omega
 ·grind [eR]
theorem wF{a:List Int}(ha:ba a)(la:SM a)(hn:n<=32)(h:∀out,ba out->out.length=a.length->val out=val a/2^n->Q out):jw a (n:Int) Q:=by
 unfold SM at la;unfold jw;have hs:=Ag hn;have hpp:=pI n;have hqp:=pI (32-n);generalize hp:(2:Int)^n=p at *
 generalize (2:Int)^(32-n)=q at *
 have ahy:p ∣ 4294967296:=⟨q,hs.symm⟩
 refine⟨yt om la,λy=>∃i:Nat,y.1=i/\i<=a.length/\y.2.length=a.length/\ba y.2/\pv y.2 i*p=pv a i-a.getD 0 0%p+(a.getD i 0%p)*4294967296^i,λy=>a.length-y.1.toNat,
  ⟨0,rfl,om,by simp[bA],ba.rep _,by simp[pv];omega⟩,?_⟩
 rintro⟨x,out⟩ ⟨i,hx,hi,hlen,hw,Tp⟩;simp only at hx hi hlen hw Tp;subst hx;have h0:=ha i;have h1:=ha (i+1);have e1:(i:Int)+1=((i+1:Nat):Int):=om;refine Qb (λQH=>eJ ha ⟨Qo,?_⟩) (λTV=>?_)
 ·rw[e1];refine eJ ha ⟨⟨om,om⟩,⟨om,om⟩,Qo,?_,by dsimp only;omega⟩;have Wq:(2:Int)^toNat 32=4294967296:=rfl;rw[Wq,toNat_natCast,hp,Qj om om,Kp 32 h0.1 h0.2 om (by show _%4294967296=0;omega) om,gQ,wrap_u32];generalize ha0:a.getD i 0=x0 at *
  generalize ha1:a.getD (i+1) 0=x1 at *
  have Zb:0<=x0/p:=Int.ediv_nonneg h0.1 om;have ada:x0/p<q:=by simp_all [Int.ediv_lt_iff_lt_mul,mul_comm]
  have hm0:0<=x1%p:=Int.emod_nonneg _ om;have hm1:x1%p<p:=Int.emod_lt_of_pos _ hpp;have hdv:(x1*4294967296+x0)/p=x1*q+x0/p:=by rw[<-hs,Int.mul_left_comm,add_comm,Int.add_mul_ediv_left _ _ om,add_comm]
  have hk:(x1*4294967296+x0)/p%4294967296=(x1%p)*q+x0/p:=by
   have d1:x1=p*(x1/p)+x1%p:=(Int.mul_ediv_add_emod x1 p).symm;have d2:x1*q+x0/p=(x1%p)*q+x0/p+4294967296*(x1/p):=by grind
   rw[hdv,d2,Int.add_mul_emod_self_left];refine Int.emod_eq_of_lt ?_ ?_;·have:=mul_nonneg hm0 (le_of_lt hqp);omega
   ·have:(x1%p)*q<=(p-1)*q:=mul_le_mul_of_nonneg_right om om;rw[sub_mul,hs]at this;omega
  rw[hk];have Z5:=mul_nonneg hm0 (le_of_lt hqp);have hq1:(x1%p)*q<=(p-1)*q:=mul_le_mul_of_nonneg_right om om;rw[sub_mul,hs]at hq1;refine⟨i+1,rfl,om,by simp[hlen],hw.set _ om om,?_⟩;show pv (out.set i (x1%p*q+x0/p)) (i+1)*p=pv a (i+1)-_+_;rw[ya om,pv,add_mul,Tp,ha0,ha1,pow_succ];have d0:x0=p*(x0/p)+x0%p:=(Int.mul_ediv_add_emod x0 p).symm;have s1:(x1%p*q+x0/p)*4294967296^i*p=x1%p*(4294967296^i*4294967296)+(p*(x0/p))*4294967296^i:=by grind
  have s2:x0*4294967296^i=(p*(x0/p))*4294967296^i+x0%p*4294967296^i:=by grind
  omega
 ·obtain rfl:i=a.length:=om;refine h out hw hlen ?_;have a1:=eR hw;have a2:=eR ha;rw[hlen]at a1;rw[FQ (Nat.le_refl a.length),Int.zero_emod,Int.zero_mul,<-a2,<-a1]at Tp;have Vz:0<=a.getD 0 0%p:=Int.emod_nonneg _ om;have TH:a.getD 0 0%p<p:=Int.emod_lt_of_pos _ hpp;have e:(val a:Int)/p=val out:=by
   have:(val a:Int)=p*val out+a.getD 0 0%p:=by rw[mul_comm];omega
   rw[this,add_comm,Int.add_mul_ediv_left _ _ om,Int.ediv_eq_zero_of_lt Vz TH];omega
  have e2:((val a/2^n:Nat):Int)=(val a:Int)/p:=by rw[<-hp];simp
  omega
theorem wD{a:List Int}{b:Int}{Q:List Int->Int->Prop}(ha:ba a)(la:SM a)(V_:0<b)(YI:b<4294967296)(h:Q (lim (val a/b.toNat)) ((val a%b.toNat:Nat):Int)):jv a b Q:=by
 unfold SM at la;unfold jv;rw[Qj om om]
 refine⟨yt om la,Qo,λy=>∃j:Nat,y.2.1=(j:Int)-1/\j<=a.length/\y.2.2.length=a.length/\ba y.2.2/\(∀k,k<j->y.2.2.getD k 0=0)/\0<=y.1/\y.1<b/\pv y.2.2 a.length*b+y.1*4294967296^j=pv a a.length-pv a j,
  λy=>(y.2.1+1).toNat,⟨a.length,rfl,om,by simp[bA],ba.rep _,λk hk=>?_,om,V_,?_⟩,?_⟩
 ·show(replicate a.length (0:Int)).getD k 0=0;rw[List.getD_eq_getElem?_getD,List.getElem?_replicate];split<;>rfl
 ·show pv (replicate a.length (0:Int)) a.length*b+0*_=_;rw[yb];simp
 rintro⟨r,x,out⟩ ⟨j,hx,hj,hlen,hw,hz,Vz,TH,Tp⟩;simp only at hx hj hlen hw hz Vz TH Tp;subst hx;have hj1:((j:Int)-1).toNat=j-1:=om;refine Qb (λhc=>⟨⟨om,om⟩,?_⟩) (λhc=>?_)
 ·obtain⟨i,rfl⟩:∃i,j=i+1:=⟨j-1,om⟩;have ei:((i+1:Nat):Int)-1=(i:Int):=om;have h0:=ha i;have Wq:(2:Int)^toNat 32=4294967296:=rfl;rw[ei,oB,Wq,Qj om om,Qj om om,BH 32 h0.1 h0.2 om (by show _%4294967296=0;omega) om];refine k_ ⟨om,⟨om,om⟩,om,Qo,?_,by dsimp only;omega⟩;generalize hv:r*4294967296+a.getD i 0=v;have hv0:0<=v:=om;rw[Int.tdiv_eq_ediv_of_nonneg hv0,Int.tmod_eq_emod_of_nonneg hv0,gQ];have Z5:0<=v/b:=Int.ediv_nonneg hv0 om;have hq1:v/b<4294967296:=by rw[Int.ediv_lt_iff_lt_mul V_,<-hv];have:r*4294967296<=(b-1)*4294967296:=mul_le_mul_of_nonneg_right om om;omega
  rw[Qj Z5 om,wrap_u32];have hqm:v/b%4294967296=v/b:=om;rw[hqm];refine⟨i,rfl,om,by simp[hlen],hw.set _ Z5 hq1,λk hk=>?_,Int.emod_nonneg _ om,Int.emod_lt_of_pos _ V_,?_⟩;·grind [iG]
  ·grind [pv,mr,Int.mul_ediv_add_emod]
 ·obtain rfl:j=0:=om;refine cp hw (by unfold SM;omega) ?_;have a1:=eR hw;have a2:=eR ha;rw[hlen]at a1;simp only[pv,Int.pow_zero,Int.mul_one,Int.sub_zero]at Tp;rw[<-a1,<-a2]at Tp;obtain⟨c,rfl⟩:∃c:Nat,b=c:=⟨b.toNat,om⟩;rw[toNat_natCast]at h;have hq:val a/c=val out:=by
   have:val a=c*val out+r.toNat:=by grind
   rw[this,Nat.add_comm,Nat.add_mul_div_left _ _ om,Nat.div_eq_of_lt om];omega
  have hm:val a%c=r.toNat:=by
   have:val a=c*val out+r.toNat:=by grind
   rw[this,Nat.add_comm,Nat.add_mul_mod_self_left,Nat.mod_eq_of_lt om]
  rw[hq,hm]at h;rw[wrap_u32];have e:r%4294967296=((r.toNat:Nat):Int):=om;rw[e];exact h
theorem t_{n:Int}(h1:n<=9223372036854775807)(h:Q (lim n.toNat)):nt n Q:=by
 refine Qb (λhc=>?_) (λhc=>?_)
 ·grind [ff]
 ·have Wq:(2:Int)^toNat 32=4294967296:=rfl;rw[Wq,wrap_u32,wrap_u32];have hw:ba [n%4294967296,n/4294967296%4294967296]:=(ba.nil.cons om om).cons om om;refine cp hw (by simp[SM]) ?_;have hv:val [n%4294967296,n/4294967296%4294967296]=n.toNat:=by rw[qU hw,qU hw.tail,tE];omega
  rw[hv];exact h
theorem GX{a:List Int}(ha:ba a)(hz:∀k,i<k->k<a.length->a.getD k 0=0)(hi:i<a.length)(hn:a.getD i 0≠0):(dE (val a):Int)=32*i+dE (a.getD i 0).toNat:=by
 have h0:=ha i;have a1:=eR ha;rw[wY (j:=i+1) a.length hi (λk h1 h2=>hz k om h2),pv]at a1;obtain⟨b1,b2⟩:=cz ha i;obtain⟨x,hx⟩:∃x:Nat,a.getD i 0=x:=⟨(a.getD i 0).toNat,om⟩;rw[hx]at a1 hn h0 ⊢;rw[toNat_natCast];have Zb:x≠0:=om;have c1:=xr (n:=x);have c2:=sg Zb;have hb:dE x≠0:=by grind
 have ew:((4294967296^i:Nat):Int)=(4294967296:Int)^i:=by simp
 have e1:val a=(pv a i).toNat+x*4294967296^i:=by grind
 have QH:(pv a i).toNat<4294967296^i:=om;have Un:(4294967296:Nat)^i=2^(32*i):=by rw[Nat.pow_mul]
 have:dE (val a)=32*i+dE x:=by
  refine AP ?_ (λ_=>?_)
  ·rw[e1,pow_add,<-Un];have:(x+1)*4294967296^i<=2^dE x*4294967296^i:=Nat.mul_le_mul_right _ c1;rw[Nat.add_mul,Nat.mul_comm (2^dE x)]at this;omega
  ·have e:32*i+dE x-1=32*i+(dE x-1):=om;rw[e1,e,pow_add,<-Un];have:2^(dE x-1)*4294967296^i<=x*4294967296^i:=Nat.mul_le_mul_right _ c2;rw[Nat.mul_comm (2^(dE x-1))]at this;omega
 omega
theorem yp{a:List Int}{Q:Int->Prop}(ha:ba a)(la:SM a)(h:Q (dE (val a))):oe a Q:=by
 unfold SM at la;refine⟨Qo,λx=>∃j:Nat,x=(j:Int)-1/\j<=a.length/\∀k,j<=k->k<a.length->a.getD k 0=0,λx=>(x+1).toNat,⟨a.length,rfl,om,λk h1 h2=>om⟩,?_⟩;rintro _ ⟨j,rfl,hj,hz⟩;refine Qb (λhc=>⟨⟨om,om⟩,?_⟩) (λhc=>?_)
 ·obtain⟨i,rfl⟩:∃i,j=i+1:=⟨j-1,om⟩;have ei:((i+1:Nat):Int)-1=(i:Int):=om;rw[ei,oB];have h0:=ha i;refine iY (λhn=>⟨Qo,⟨om,om⟩,?_⟩) (λhe=>⟨Qo,⟨i,rfl,om,λk h1 h2=>?_⟩,by dsimp only;omega⟩);·have hb:=GX ha (λk h1 h2=>hz k om h2) om hn;obtain⟨x,hx⟩:∃x:Nat,a.getD i 0=x:=⟨(a.getD i 0).toNat,om⟩;rw[hx]at hb ⊢;rw[toNat_natCast]at hb;have h32:=vI (x:=x) om;refine FN om ⟨Qo,?_⟩;rw[<-hb];exact h
  ·grind
 ·obtain rfl:j=0:=om;have:val a=0:=by have a1:=eR ha;rw[wY (j:=0) a.length om (λk h1 h2=>hz k h1 h2)]at a1;simp only[pv]at a1;omega
  rw[this,GW]at h;exact h
variable{j:Nat}
theorem vu{l:List Int}:(l.drop j).getD i 0=l.getD (j+i) 0:=by simp_all
theorem wa{l:List Int}{o:Nat}{x:Int}(h:o+i<l.length):pv ((l.set (o+i) x).drop o) (i+1)=pv (l.drop o) i+x*4294967296^i:=by grind [pv,pG]
variable{g:Int}
theorem yn{u v:List Int}{o:Nat}{Q:List Int->Bool->Prop}(hu:ba u)(hv:ba v)(lu:SM u)(ho:o+n<=u.length)(hn:v.length<n)(Ya:0<=g)(hg1:g<4294967296)(h:∀(w:List Int) (b:Int),ba w->w.length=u.length->(∀k,k<o\/o+n<=k->w.getD k 0=u.getD k 0)->(b=0\/b=1)->pv (w.drop o) n=pv (u.drop o) n-g*val v+b*4294967296^n->Q w (b==1)) :oc u o n v g Q:=by
 unfold SM at lu
 refine⟨λy=>∃i:Nat,y.2.2.1=i/\i<=n/\y.2.2.2.length=u.length/\ba y.2.2.2/\(∀k,k<o\/o+i<=k->y.2.2.2.getD k 0=u.getD k 0)/\0<=y.1/\y.1<4294967296/\0<=y.2.1/\y.2.1<=1/\0<=g*pv v i-y.1*4294967296^i/\g*pv v i-y.1*4294967296^i<4294967296^i/\
   pv (y.2.2.2.drop o) i=pv (u.drop o) i-(g*pv v i-y.1*4294967296^i)+y.2.1*4294967296^i,λy=>n-y.2.2.1.toNat,
  ⟨0,rfl,om,rfl,hu,λ_ _=>rfl,le_refl 0,by show(0:Int)<4294967296;omega,le_refl 0,by show(0:Int)<=1;omega,by simp[pv],by simp[pv],by simp[pv]⟩,?_⟩
 rintro⟨c,b,x,w⟩ ⟨i,hx,hi,hlen,hw,hz,Vr,UO,V_,YI,Zg,Tk,Tp⟩;simp only at hx hi hlen hw hz Vr UO V_ YI Zg Tk Tp;subst hx;have Zd:=hv i;have hwi:=hw (o+i);have eoi:(o:Int)+(i:Int)=((o+i:Nat):Int):=om;refine Qb (λQH=>eJ hv ?_) (λTV=>?_)
 ·have hm0:0<=g*v.getD i 0:=mul_nonneg Ya Zd.1;have hm1:g*v.getD i 0<=4294967295*4294967295:=mul_le_mul om om Zd.1 om;rw[Qj hm0 om,Qj om om];refine k_ ⟨⟨om,QH⟩,om,?_⟩;rw[eoi,oB];generalize WG:c+g*v.getD i 0=d at *
  rw[Qj hwi.1 om,wrap_u32,Qj (m:=d%4294967296) om om];obtain⟨q1,q2,q3⟩:=CD (w.getD (o+i) 0) (d%4294967296) b hwi om ⟨V_,YI⟩;refine k_ ⟨⟨om,QH⟩,om,Qo,?_,by dsimp only;omega⟩;generalize IntKind.u64.wrap (IntKind.u64.wrap (w.getD (o+i) 0-d%4294967296)-b)=e at *
  have e63:e/2^toNat 63=e/9223372036854775808:=rfl;have Wq:d/2^toNat 32=d/4294967296:=rfl;rw[e63,Wq,gQ,wrap_u32];have hP:=lw i;have p1:pv (u.drop o) (i+1)=pv (u.drop o) i+w.getD (o+i) 0*4294967296^i:=by grind [pv]
  have p2:g*pv v (i+1)=g*pv v i+g*v.getD i 0*4294967296^i:=by grind [pv]
  have p3:=pow_succ (4294967296:Int) i;have p0:=wa (l:=w) (o:=o) (i:=i) (x:=e%4294967296) om;generalize (4294967296:Int)^i=P at *
  have s1:=wW d P;have s3:d*P=c*P+g*v.getD i 0*P:=by rw[<-WG,add_mul]
  have s5:d%4294967296*P<=4294967295*P:=mul_le_mul_of_nonneg_right om om;have s6:0<=d%4294967296*P:=mul_nonneg om om;refine⟨i+1,rfl,om,by simp[hlen],hw.set _ om om,λk hk=>?_,by show 0<=d/4294967296;omega,by show d/4294967296<4294967296;omega,q2,q3,?_,?_,?_⟩;·grind
  ·show 0<=g*pv v (i+1)-d/4294967296*4294967296^(i+1);rw[p2,p3];omega
  ·show g*pv v (i+1)-d/4294967296*4294967296^(i+1)<4294967296^(i+1);rw[p2,p3];omega
  ·grind
 ·obtain rfl:i=n:=om;refine h w b hw hlen hz om ?_;have a1:=oM hv (i:=i) om;have hc:c=0:=by
   have hv1:=oM hv (i:=i-1) om;have Sq:=(cz hv (i-1)).2;have hw0:=cz hw 0;obtain⟨m,rfl⟩:∃m,i=m+1:=⟨i-1,om⟩;rw[Nat.add_sub_cancel]at hv1 Sq;have hP:=lw m;rw[pow_succ]at Tp;have hgv:g*pv v (m+1)<=4294967295*(4294967296^m-1):=by rw[<-a1,hv1];exact mul_le_mul om om (cz hv m).1 om
   rw[pow_succ]at Zg;generalize (4294967296:Int)^m=P at *
   rcases lt_or_le 0 c with hc|hc;·have:1*(P*4294967296)<=c*(P*4294967296):=mul_le_mul_of_nonneg_right om om;omega
   ·omega
  subst hc;rw[a1];rw[Tp];omega
theorem yo{u v:List Int}{o:Nat}(hu:ba u)(hv:ba v)(lu:SM u)(ho:o+n<=u.length)(hn:v.length<=n)(h:∀(w:List Int) (c:Int),ba w->w.length=u.length->(∀k,k<o\/o+n<=k->w.getD k 0=u.getD k 0)->(c=0\/c=1)->pv (w.drop o) n+c*4294967296^n=pv (u.drop o) n+val v->Q w) :od u o n v Q:=by
 unfold SM at lu
 refine⟨λy=>∃i:Nat,y.2.1=i/\i<=n/\y.2.2.length=u.length/\ba y.2.2/\(∀k,k<o\/o+i<=k->y.2.2.getD k 0=u.getD k 0)/\0<=y.1/\y.1<=1/\
   pv (y.2.2.drop o) i+y.1*4294967296^i=pv (u.drop o) i+pv v i,λy=>n-y.2.1.toNat,
  ⟨0,rfl,om,rfl,hu,λ_ _=>rfl,le_refl 0,by show(0:Int)<=1;omega,by simp[pv]⟩,?_⟩
 rintro⟨c,x,w⟩ ⟨i,hx,hi,hlen,hw,hz,Vr,UO,Tp⟩;simp only at hx hi hlen hw hz Vr UO Tp;subst hx;have Zd:=hv i;have hwi:=hw (o+i);have eoi:(o:Int)+(i:Int)=((o+i:Nat):Int):=om;refine Qb (λQH=>⟨⟨om,QH⟩,om,v.getD i 0,eJ hv rfl,⟨om,QH⟩,om,?_⟩) (λTV=>?_)
 ·rw[eoi,oB,Qj hwi.1 om,Qj (m:=w.getD (o+i) 0+v.getD i 0) om om,Qj om om];refine k_ ⟨Qo,?_,by dsimp only;omega⟩;have Wq:∀d:Int,d/2^toNat 32=d/4294967296:=λ_=>rfl
  rw[Wq,gQ,wrap_u32];generalize hd:c+(w.getD (o+i) 0+v.getD i 0)=d;refine⟨i+1,rfl,om,by simp[hlen],hw.set _ om om,λk hk=>?_,by show 0<=d/4294967296;omega,by show d/4294967296<=1;omega,?_⟩;·grind
  ·show pv ((w.set (o+i) (d%4294967296)).drop o) (i+1)+d/4294967296*4294967296^(i+1)=pv (u.drop o) (i+1)+pv v (i+1)
   have p1:pv (u.drop o) (i+1)=pv (u.drop o) i+w.getD (o+i) 0*4294967296^i:=by rw[pv,vu,hz (o+i) (by omega)]
   have p2:pv v (i+1)=pv v i+v.getD i 0*4294967296^i:=by rw[pv]
   rw[wa (by omega),p1,p2,Int.pow_succ]
   have s1:d%4294967296*4294967296^i+d/4294967296*(4294967296^i*4294967296)=d*4294967296^i:=by
    have e:=Int.mul_ediv_add_emod d 4294967296
    generalize d/4294967296=q at *
    generalize d%4294967296=r at *
    rw[<-e];generalize (4294967296:Int)^i=B;rw[Int.add_mul,Int.mul_comm B 4294967296,<-Int.mul_assoc,Int.mul_comm q 4294967296];omega
   have s3:d*4294967296^i=c*4294967296^i+(w.getD (o+i) 0*4294967296^i+v.getD i 0*4294967296^i):=by rw[<-hd,Int.add_mul,Int.add_mul]
   omega
 ·grind [oM]
theorem qj{a b c:Nat}(h:a+b=c):(2:Int)^a*2^b=2^c:=by rw[<-Int.pow_add,h]
theorem C9{V P B top nx vl head th pl:Int}(hV:V=(top*4294967296+nx)*B+vl)(Vi:0<=vl)(hP:P=(head*4294967296+th)*B+pl)(U7:pl<B)(hB:0<B)(hg:0<=g)(h:head*4294967296+th<g*(top*4294967296+nx)):P<g*V:=by have h1:(head*4294967296+th+1)*B<=g*(top*4294967296+nx)*B:=mul_le_mul_of_nonneg_right om om;have h2:0<=g*vl:=mul_nonneg hg Vi;rw[hV,Int.mul_add,<-Int.mul_assoc];rw[add_mul]at h1;omega
theorem C_{V P B top nx vl head th pl:Int}(hV:V=(top*4294967296+nx)*B+vl)(agy:0<=vl)(Vi:vl<B)(hP:P=(head*4294967296+th)*B+pl)(U7:0<=pl)(Ya:0<=g)(hg:g<4294967296)(hVB:4294967296*B<=V)(h:g*(top*4294967296+nx)<=head*4294967296+th):(g-1)*V<=P:=by have h1:g*(top*4294967296+nx)*B<=(head*4294967296+th)*B:=mul_le_mul_of_nonneg_right h om;have h2:g*vl<=4294967296*B:=mul_le_mul om om agy om;rw[sub_mul,hV,Int.mul_add,<-Int.mul_assoc];rw[<-hV];omega
theorem rj{l:List Int}{i:Nat}:∀n,pv l (i+n)=pv l i+pv (l.drop i) n*4294967296^i
 | 0=>by simp[pv]
 | n+1=>by rw[<-Nat.add_assoc,pv,rj n,pv,vu,add_mul,Int.pow_add,Int.mul_assoc (l.getD (i+n) 0),mul_comm (4294967296^n)];omega
theorem BE{l m:List Int}{i n:Nat}(h:∀k,k<i\/i+n<=k->l.getD k 0=m.getD k 0):∀M,i+n<=M->pv l M-pv m M=(pv (l.drop i) n-pv (m.drop i) n)*4294967296^i
 | 0,hM=>by simp_all
 | M+1,hM=>by
  by_cases he:i+n=M+1;·rw[<-he,rj,rj,pG i (λk hk=>h k (.inl hk)),sub_mul];omega
  ·rw[pv,pv,h M (.inr om)];have:=BE h M om;omega
theorem FK(h:n≠0):(lim n).getD ((lim n).length-1) 0≠0:=by
 induction n using strongRecOn with
 | _ n ih=>grind [ku,List.length_cons,Nat.add_sub_cancel,ff,Nat.div_lt_self,lim,Nat.succ_pred_eq_of_ne_zero]
theorem Er{top nx hd1 Yd th V P B vl pl:Int}{next3:Int->Prop}{G1 G2 G3:Prop}(hG1:G1)(hG2:G2)(hG3:G3)(ajz:2147483648<=top)(Ue:top<4294967296)(Q6:0<=nx/\nx<4294967296)(h1:0<=hd1/\hd1<=top)(h2:0<=Yd/\Yd<4294967296)(h3:0<=th/\th<4294967296)(hV:V=(top*4294967296+nx)*B+vl)(Vi:0<=vl/\vl<B)(hP:P=((hd1*4294967296+Yd)*4294967296+th)*B+pl)(U7:0<=pl/\pl<B)(hB:0<B)(hPV:P<V*4294967296)(hn:∀g,0<=g->g<4294967296->P<(g+1)*V->(g-1)*V<=P->next3 g) :aO (σ:=Int×Int) (IntKind.u64.wrap (Int.tdiv (hd1*4294967296+Yd) top),Int.tmod (hd1*4294967296+Yd) top) λ⟨RU,rest⟩ QD=>
   bV (α:=Unit) (λRo=>af (decide (4294967296<=RU)) (Ro ()) (G1/\G2/\G3/\af (decide (bits .or .u64 (IntKind.u64.wrap (rest*4294967296)) th<IntKind.u64.wrap (RU*nx))) (Ro ()) (next3 RU)))
    λ_=>kf (IntKind.u64.wrap (rest+top)) λSJ=>af (decide (4294967296<=SJ)) (next3 (IntKind.u64.wrap (RU-1))) (QD (IntKind.u64.wrap (RU-1),SJ)):=by
 have aaZ:0<=hd1*4294967296+Yd:=om;have hVB:4294967296*B<=V:=by have:4294967296*B<=(top*4294967296+nx)*B:=mul_le_mul_of_nonneg_right om om;omega
 generalize hhd:hd1*4294967296+Yd=head at *
 have aj1:head<=top*4294967296+4294967295:=om;have Z5:0<=head/top:=Int.ediv_nonneg aaZ om;have Vz:0<=head%top:=Int.emod_nonneg _ om;have TH:head%top<top:=Int.emod_lt_of_pos _ om;have hde:head=top*(head/top)+head%top:=(Int.mul_ediv_add_emod head top).symm;have hqu:head/top<4294967298:=by rw[Int.ediv_lt_iff_lt_mul om];omega
 rw[Int.tdiv_eq_ediv_of_nonneg aaZ,Int.tmod_eq_emod_of_nonneg aaZ,Qj Z5 om];refine⟨λy=>0<=y.1/\y.1<4294967298/\0<=y.2/\y.2<4294967296/\head=y.1*top+y.2/\P<(y.1+1)*V,λy=>y.1.toNat,⟨Z5,hqu,Vz,by show head%top<_;omega,by show head=head/top*top+head%top;rw[mul_comm];exact hde,?_⟩,?_⟩
 ·show P<(head/top+1)*V;refine C9 hV Vi.1 hP U7.2 hB om ?_;have a1:(head/top+1)*top=top*(head/top)+top:=by grind
  have a2:(head/top+1)*(top*4294967296+nx)=(head/top+1)*top*4294967296+(head/top+1)*nx:=by grind
  have a3:0<=(head/top+1)*nx:=mul_nonneg om Q6.1;omega
 rintro⟨g,r⟩ ⟨Ya,hg1,Vz,TH,hh,hU⟩;simp only at Ya hg1 Vz TH hh hU;have amO:g*(top*4294967296+nx)=(g*top)*4294967296+g*nx:=by grind
 refine⟨λ_=>P<g*V,Qb (λhc=>?_) (λhc=>⟨hG1,hG2,hG3,?_⟩),λ_ QH=>?_⟩
 ·have:V*4294967296<=g*V:=by rw[mul_comm V];exact mul_le_mul_of_nonneg_right hc om
  omega
 ·have ahp:0<=g*nx:=mul_nonneg Ya Q6.1;have aho:g*nx<=4294967295*4294967295:=mul_le_mul om om Q6.1 om;rw[Qj (m:=r*4294967296) om om,Qj ahp om,BH 32 h3.1 h3.2 om (by show _%4294967296=0;omega) om];refine Qb (λhgt=>?_) (λhle=>?_)
  ·exact C9 hV Vi.1 hP U7.2 hB Ya om
  ·exact hn g Ya om hU (C_ hV Vi.1 Vi.2 hP U7.1 Ya om hVB om)
 ·have aa0:1<=g:=by
   rcases lt_or_le g 1 with h|h
   ·have:g=0:=om;subst this;have hP0:0<=P:=by rw[hP];have:0<=(head*4294967296+th)*B:=mul_nonneg om om;omega
    simp at QH;omega
   ·exact h
  rw[Qj (m:=r+top) om om,Qj (m:=g-1) om om];have WY:(g-1)*top=g*top-top:=by rw[sub_mul];omega
  have aj5:(g-1)*(top*4294967296+nx)=((g-1)*top)*4294967296+(g-1)*nx:=by grind
  refine k_ (Qb (λhc=>?_) (λhc=>⟨⟨by show 0<=g-1;omega,by show g-1<_;omega,by show 0<=r+top;omega,by show r+top<_;omega,by show head=(g-1)*top+(r+top);omega,by show P<(g-1+1)*V;rw[Int.sub_add_cancel];exact QH⟩,by show(g-1).toNat<g.toNat;omega⟩));have hgW:g-1<4294967296:=by grind
  have aho:(g-1)*nx<=4294967295*4294967295:=mul_le_mul om om Q6.1 om;refine hn (g-1) om hgW (by rw[Int.sub_add_cancel];exact QH) (C_ hV Vi.1 Vi.2 hP U7.1 om hgW hVB om)
set_option maxHeartbeats 2000000 in
theorem sL{a b:List Int}{Q:List Int->List Int->Option Int->Prop}(ha:ba a)(hb:ba b)(la:a.length<=1099511627774)(lb:b.length<=1099511627774)(h0:val b=0->Q [] [] (some 8))(h:val b≠0->Q (lim (val a/val b)) (lim (val a%val b)) none):jl a b Q:=by
 refine cp ha (by unfold SM;omega) (cp hb (by unfold SM;omega) ?_);have b1:=iF ha;have b2:=iF hb;have w1:=bc (val a);have w2:=bc (val b);have v1:=bQ (val a);have v2:=bQ (val b);refine bk (λhc=>?_) (λhc=>?_)
 ·grind [val,tE]
 have hB:val b≠0:=by grind [ff]
 replace h:=h hB;clear h0;refine l_ w1 w2 (by unfold SM;omega) (by unfold SM;omega) ?_;rw[v1,v2];refine Qb (λQH=>?_) (λTV=>bk (λh1=>?_) (λh1=>?_))
 ·grind [uy,Nat.div_eq_of_lt,Nat.mod_eq_of_lt,ff]
 ·
  have Tk:(lim (val b)).length=1:=om;have hw0:=w2 0;have hbv:(val b:Int)=(lim (val b)).getD 0 0:=by grind [eR,pv]
  refine⟨⟨om,om⟩,?_⟩;have e0:P9 (lim (val b)) 0=(val b:Int):=by rw[hbv];rfl
  rw[e0];have hm:val a%val b<val b:=Nat.mod_lt _ om;refine wD w1 (by unfold SM;omega) om om ?_;rw[v1,toNat_natCast,RG Qo];refine t_ om ?_;rw[toNat_natCast];exact h
 obtain⟨m,hm⟩:∃m,(lim (val b)).length=m+2:=⟨(lim (val b)).length-2,om⟩;have ahq:val b<=val a:=by simp_all [uy]
 have hlen:m+2<=(lim (val a)).length:=by rw[<-hm];exact f_ ahq
 generalize hA:val a=A at *
 generalize hBv:val b=B at *
 have Ue:=FK hB;have V':(val (lim B):Int)=_:=eR w2;rw[v2]at V';have hAp:(A:Int)<4294967296^(lim A).length:=by have:=(cz w1 (lim A).length).2;have e:=eR w1;rw[v1]at e;omega
 generalize hla:lim A=al at *
 generalize hlb:lim B=bl at *
 rw[hm]at Ue V';have e21:m+2-1=m+1:=om;rw[e21]at Ue;have hwt:=w2 (m+1);have UX:(bl.length:Int)-1=((m+1:Nat):Int):=om;rw[UX];obtain⟨tp,htp⟩:∃x:Nat,bl.getD (m+1) 0=x:=⟨(bl.getD (m+1) 0).toNat,om⟩;refine⟨Qo,⟨om,om⟩,?_⟩;rw[oB,htp];rw[htp]at Ue hwt;have agD:tp≠0:=om;have c1:=xr (n:=tp);have c2:=sg agD;have c3:=vI (x:=tp) om;have c4:dE tp≠0:=by grind
 refine Nb om ?_;obtain⟨s,hs⟩:∃s,32-dE tp=s:=⟨_,rfl⟩;rw[hs];have alZ:s<=31:=om;refine rv w2 om om (λr4 hr4 aaQ aaP=>?_);rw[hm]at aaQ;rw[v2]at aaP;refine⟨⟨om,om,om⟩,k_ ?_⟩;have Vi:(fV r4 0 (bl.length:Int))=r4.take (m+2):=by show(r4.drop 0).take (((bl.length:Nat):Int).toNat-0)=_;rw[toNat_natCast,hm];rfl
 rw[Vi];have ajw:(r4.take (m+2)).length=m+2:=by simp_all
 have hPm:=lw m;have ew:(4294967296:Int)^(m+2)=4294967296^m*4294967296*4294967296:=by grind
 have ew1:(4294967296:Int)^(m+1)=4294967296^m*4294967296:=pow_succ ..;have am4:(B:Int)=pv bl m+bl.getD m 0*4294967296^m+tp*(4294967296^m*4294967296):=by rw[V',pv,pv,htp,ew1]
 have hbm:=cz w2 m;have ahE:=w2 m;have Vn:bl.getD m 0*4294967296^m<=4294967295*4294967296^m:=mul_le_mul_of_nonneg_right om om;have ajP:0<=bl.getD m 0*4294967296^m:=mul_nonneg ahE.1 om;have hps:=pI s;have hts:(tp:Int)*2^s<4294967296/\2147483648<=(tp:Int)*2^s:=by
  have e1:(2:Int)^(dE tp)*2^s=4294967296:=qj (c:=32) om;have e2:(2:Int)^(dE tp-1)*2^s=2147483648:=qj (c:=31) om;have f1:(tp:Int)+1<=2^(dE tp):=by exact_mod_cast c1
  have f2:(2:Int)^(dE tp-1)<=tp:=by exact_mod_cast c2
  have g1:((tp:Int)+1)*2^s<=2^(dE tp)*2^s:=mul_le_mul_of_nonneg_right f1 om;have g2:(2:Int)^(dE tp-1)*2^s<=tp*2^s:=mul_le_mul_of_nonneg_right f2 om;rw[add_mul]at g1;omega
 have aen:((val r4:Nat):Int)=(B:Int)*2^s:=by rw[aaP];simp
 have adt:=eR hr4;rw[aaQ]at adt;have am8:(val r4:Int)<4294967296^(m+2):=by
  have k1:(B:Int)+1<=(tp+1)*(4294967296^m*4294967296):=by rw[add_mul];omega
  have k2:((B:Int)+1)*2^s<=((tp+1)*(4294967296^m*4294967296))*2^s:=mul_le_mul_of_nonneg_right k1 om;have k3:(((tp:Int)+1)*2^s)<=4294967296:=by
   have f1:(tp:Int)+1<=2^(dE tp):=by exact_mod_cast c1
   have e1:(2:Int)^(dE tp)*2^s=4294967296:=qj (c:=32) om;have g1:((tp:Int)+1)*2^s<=2^(dE tp)*2^s:=mul_le_mul_of_nonneg_right f1 om;omega
  have k4:(((tp:Int)+1)*2^s)*(4294967296^m*4294967296)<=4294967296*(4294967296^m*4294967296):=mul_le_mul_of_nonneg_right k3 om;rw[Int.mul_right_comm]at k2;rw[add_mul]at k2;rw[aen,ew];omega
 have ahN:2147483648*(4294967296^m*4294967296)<=(val r4:Int):=by have k1:(tp:Int)*(4294967296^m*4294967296)<=B:=om;have k2:(tp:Int)*(4294967296^m*4294967296)*2^s<=B*2^s:=mul_le_mul_of_nonneg_right k1 om;have k3:2147483648*(4294967296^m*4294967296)<=(tp:Int)*2^s*(4294967296^m*4294967296):=mul_le_mul_of_nonneg_right hts.2 om;rw[Int.mul_right_comm]at k2;omega
 have hVp:(val r4:Int)=pv (r4.take (m+2)) (m+2):=by grind [Fm,w_]
 have hwv:ba (r4.take (m+2)):=hr4.take _;have hvv:val (r4.take (m+2))=val r4:=by grind [eR]
 generalize hv:r4.take (m+2)=v at *
 generalize hVV:val r4=V at *
 clear hr4 aaQ adt Vi;refine rv w1 om om (λu hu XY huv=>?_);rw[v1]at huv;have agx:(v.length:Int)-1=((m+1:Nat):Int):=om;have agw:(v.length:Int)-2=(m:Int):=om;obtain⟨K,hK⟩:∃K,al.length=K+(m+2):=⟨al.length-(m+2),om⟩;have hkl:(u.length:Int)-(v.length:Int)=((K+1:Nat):Int):=om;rw[agx,agw,hkl];refine⟨Qo,⟨om,om⟩,Qo,⟨om,om⟩,Qo,yt om om,Qo,k_ ?_⟩;rw[toNat_natCast];have hU:(val u:Int)<V*4294967296^(K+1):=by
  have k0:((val u:Nat):Int)=(A:Int)*2^s:=by rw[huv];simp
  have k1:(2:Int)^s<=2147483648:=by have:(2:Int)^s*2^(31-s)=2147483648:=qj (c:=31) om;have h2:=pI (31-s);have:(2:Int)^s*1<=2^s*2^(31-s):=Int.mul_le_mul_of_nonneg_left om om;omega
  have k2:(A:Int)*2^s<4294967296^al.length*2^s:=Int.mul_lt_mul_of_pos_right hAp hps;have k3:(4294967296:Int)^al.length*2^s<=4294967296^al.length*2147483648:=Int.mul_le_mul_of_nonneg_left k1 (by have:=lw al.length;omega);have k4:(4294967296:Int)^al.length=4294967296^m*4294967296*4294967296^(K+1):=by grind
  rw[k4]at k2 k3;have k6:(2147483648:Int)*(4294967296^m*4294967296*4294967296^(K+1))=4294967296^m*4294967296*4294967296^(K+1)*2147483648:=mul_comm _ _;have k7:(2147483648:Int)*(4294967296^m*4294967296)*4294967296^(K+1)=2147483648*(4294967296^m*4294967296*4294967296^(K+1)):=Int.mul_assoc ..;have hPK:=lw (K+1);have k8:(2147483648:Int)*(4294967296^m*4294967296)*4294967296^(K+1)<=(V:Int)*4294967296^(K+1):=mul_le_mul_of_nonneg_right ahN (le_of_lt hPK);omega
 have hup:=eR hu;have aaH:u.length=K+m+3:=om;rw[aaH]at hup;have hvm:=hwv m;have agv:=hwv (m+1);have aeo:(V:Int)=(v.getD (m+1) 0*4294967296+v.getD m 0)*4294967296^m+pv v m:=by grind [pv]
 have Zc:=cz hwv m;have aaK:2147483648<=v.getD (m+1) 0:=by
  rcases lt_or_le (v.getD (m+1) 0) 2147483648 with hh|hh;·exfalso;have k1:(v.getD (m+1) 0*4294967296+v.getD m 0+1)*4294967296^m<=(2147483647*4294967296+4294967296)*4294967296^m:=mul_le_mul_of_nonneg_right om om;rw[add_mul]at k1;omega
  ·exact hh
 have hV0:0<(V:Int):=om
 refine⟨λy=>∃j:Nat,y.1=(j:Int)-1/\j<=K+1/\y.2.1.length=K+m+3/\ba y.2.1/\y.2.2.length=K+1/\ba y.2.2/\(∀k,k<j->y.2.2.getD k 0=0)/\
   (val u:Int)=pv y.2.2 (K+1)*V+pv y.2.1 (K+m+3)/\pv y.2.1 (K+m+3)<V*4294967296^j,λy=>(y.1+1).toNat,
  ⟨K+1,rfl,Nat.le_refl _,aaH,hu,by simp[bA],ba.rep _,λk hk=>?_,?_,?_⟩,?_⟩
 ·show(replicate (K+1) (0:Int)).getD k 0=0;rw[List.getD_eq_getElem?_getD,List.getElem?_replicate];split<;>rfl
 ·show(val u:Int)=pv (replicate (K+1) (0:Int)) (K+1)*V+pv u (K+m+3);rw[yb,<-hup];omega
 ·simp_all
 clear hU hup aaH XY hu;rintro⟨x,u1,q⟩ ⟨j,hx,hj,adg,VO,hql,hq,hqz,X0,X5⟩;simp only at hx hj adg VO hql hq hqz X0 X5;subst hx;refine Qb (λhc=>?_) (λhc=>?_)
 ·obtain⟨i,rfl⟩:∃i,j=i+1:=⟨j-1,om⟩;have ei:((i+1:Nat):Int)-1=(i:Int):=om;have f1:(i:Int)+(v.length:Int)=((i+(m+2):Nat):Int):=om;have f2:((i+(m+2):Nat):Int)-1=((i+(m+1):Nat):Int):=om;have f3:((i+(m+2):Nat):Int)-2=((i+m:Nat):Int):=om;have f4:((i+(m+2):Nat):Int)+1=((i+(m+3):Nat):Int):=om;have f5:0+toNat (i:Int)=i:=om;have f6:toNat ((i+(m+3):Nat):Int)-toNat (i:Int)=m+3:=om;have h1:=VO (i+(m+2));have h2:=VO (i+(m+1));have h3:=VO (i+m);have Wq:(2:Int)^toNat 32=4294967296:=rfl;have g1:=Qj (m:=u1.getD (i+(m+2)) 0) om om;have g2:=Qj (m:=u1.getD (i+(m+1)) 0) om om;have g3:=Qj (m:=u1.getD (i+m) 0) om om;have g4:=Qj (m:=v.getD (m+1) 0) om om;have g5:=Qj (m:=v.getD m 0) om om;have g6:=Qj (m:=u1.getD (i+(m+2)) 0*4294967296) om om;have g7:=BH (x:=u1.getD (i+(m+1)) 0) (y:=u1.getD (i+(m+2)) 0*4294967296) 32 h2.1 h2.2 om (by show _%4294967296=0;omega) om;simp only[ei,f1,f2,f3,f4,f5,f6,oB,Wq,g1,g2,g3,g4,g5,g6,g7];obtain⟨P,hPd⟩:∃P,P=pv (u1.drop i) (m+3):=⟨_,rfl⟩;have hPi:=lw i;have hud:ba (u1.drop i):=VO.drop i;have hPb:=cz hud (m+3);have adh:pv u1 (K+m+3)=pv u1 i+P*4294967296^i:=by
   have k0:K+m+3=i+((m+3)+(K-i)):=om;rw[k0,rj];congr 2;rw[hPd];refine w_ hud om ?_;rw[k0,rj,pow_succ]at X5;have k1:=(cz VO i).1;have k2:pv (u1.drop i) (m+3+(K-i))*4294967296^i<(V*4294967296)*4294967296^i:=by grind
   have k3:=Int.lt_of_mul_lt_mul_right k2 (le_of_lt hPi);have k4:(4294967296:Int)^(m+3)=4294967296^(m+2)*4294967296:=pow_succ ..;omega
  have hPV:P<V*4294967296:=by
   have k1:=(cz VO i).1;rw[adh,pow_succ]at X5;have k2:P*4294967296^i<(V*4294967296)*4294967296^i:=by grind
   exact Int.lt_of_mul_lt_mul_right k2 (le_of_lt hPi)
  have hP0:0<=P:=by rw[hPd];exact hPb.1
  have aer:P=((u1.getD (i+(m+2)) 0*4294967296+u1.getD (i+(m+1)) 0)*4294967296+u1.getD (i+m) 0)*4294967296^m+pv (u1.drop i) m:=by grind [pv]
  have hhd:u1.getD (i+(m+2)) 0<=v.getD (m+1) 0:=by
   rcases lt_or_le (v.getD (m+1) 0) (u1.getD (i+(m+2)) 0)with hh|hh
   ·exfalso;have k1:(v.getD (m+1) 0+1)*(4294967296^m*4294967296*4294967296)<=u1.getD (i+(m+2)) 0*(4294967296^m*4294967296*4294967296):=mul_le_mul_of_nonneg_right om om;have k2:P=u1.getD (i+(m+2)) 0*(4294967296^m*4294967296*4294967296)+pv (u1.drop i) (m+2):=by grind [pv,vu]
    have k3:=(cz hud (m+2)).1;have k4:(V:Int)=v.getD (m+1) 0*(4294967296^m*4294967296)+pv v (m+1):=by rw[hVp,pv,ew1];omega
    have k5:=(cz hwv (m+1)).2;rw[ew1]at k5;have k6:(V:Int)*4294967296<(v.getD (m+1) 0+1)*(4294967296^m*4294967296*4294967296):=by grind
    omega
   ·exact hh
  refine⟨Qo,⟨om,om⟩,Qo,Qo,⟨om,om⟩,om,om,λg=>0<=g/\g<4294967296/\P<(g+1)*V/\(g-1)*V<=P,
   Er (next3:=λg=>0<=g/\g<4294967296/\P<(g+1)*V/\(g-1)*V<=P) (G1:=Qe ((i+(m+2):Nat):Int)) (G2:=Qe ((i+m:Nat):Int)) (G3:=(0:Int)<=((i+m:Nat):Int)/\((i+m:Nat):Int)<(u1.length:Int)) Qo Qo ⟨om,om⟩ aaK agv.2 hvm ⟨h1.1,hhd⟩ h2 h3 aeo Zc aer (cz hud m) hPm hPV (λg a1 a2 a3 a4=>⟨a1,a2,a3,a4⟩),?_⟩
  rintro g ⟨Ya,hg1,hgU,hgL⟩;have hPW:(4294967296:Int)^(m+3)=4294967296^(m+2)*4294967296:=pow_succ ..;refine⟨λy=>ba y.2/\y.2.length=K+m+3/\(∀k,k<i\/i+(m+3)<=k->y.2.getD k 0=u1.getD k 0)/\0<=y.1/\y.1<4294967296/\pv (y.2.drop i) (m+3)=P-y.1*V/\P-y.1*V<V,?_,?_⟩
  ·refine⟨Qo,Qo,⟨om,om,om⟩,?_⟩;refine yn VO hwv (by unfold SM;omega) om om Ya hg1 (λw b hw hwl hwz hb hwp=>⟨hwl,?_⟩);rw[hvv,<-hPd]at hwp;have hwd:=cz (hw.drop i) (m+3);have hgs:(g-1)*(V:Int)=g*V-V:=by rw[sub_mul];omega
   have hga:(g+1)*(V:Int)=g*V+V:=by rw[add_mul];omega
   rcases hb with rfl|rfl
   ·refine⟨λhh=>(by cases hh),λ_=>⟨hw,by show w.length=_;omega,hwz,Ya,hg1,?_,?_⟩⟩;·simp_all
    ·grind
   ·refine⟨λ_=>⟨Qo,Qo,⟨om,om,om⟩,?_⟩,λhh=>by cases hh⟩;refine yo hw hwv (by unfold SM;omega) om om (λw' c hw' ags alG WG agr=>⟨ags,?_⟩);rw[hvv]at agr;have alL:=cz (hw'.drop i) (m+3);have aa0:1<=g:=by
     rcases lt_or_le g 1 with hh|hh;·have:g=0:=om;subst this;omega
     ·exact hh
    rw[Qj (m:=g-1) om om];refine⟨hw',by show w'.length=_;omega,λk hk=>?_,by show 0<=g-1;omega,by show g-1<_;omega,?_,?_⟩;·simp_all
    ·show pv (w'.drop i) (m+3)=P-(g-1)*V;rcases WG with rfl|rfl<;>omega
    ·show P-(g-1)*V<V;omega
  ·rintro⟨g',u2⟩ ⟨Z1,XX,Xi,ahr,aa0,T6,Vk⟩;simp only at Z1 XX Xi ahr aa0 T6 Vk;refine⟨⟨om,om⟩,Qo,⟨i,rfl,om,XX,Z1,by simp[Qt,hql],?_,λk hk=>?_,?_,?_⟩,by first|omega|(dsimp only;omega)⟩;·rw[wrap_u32,gQ];exact hq.set _ om om
   ·grind [gQ,iG]
   ·show(val u:Int)=pv (Qt q (i:Int) (IntKind.u32.wrap g')) (K+1)*V+pv u2 (K+m+3);have k0:=BE Xi (K+m+3) om;have hgm:g'%4294967296=g':=om;rw[gQ,wrap_u32,hgm,mr om (K+1) om,hqz i om,Int.sub_zero,X0,add_mul];rw[T6,<-hPd]at k0;have k1:(P-g'*V-P)*4294967296^i = - (g'*4294967296^i*V):=by grind
    omega
   ·show pv u2 (K+m+3)<V*4294967296^i;have k0:=BE Xi (K+m+3) om;rw[T6,<-hPd,adh]at k0;have k1:=(cz VO i).2;have k2:(P-g'*V+1)*4294967296^i<=V*4294967296^i:=mul_le_mul_of_nonneg_right om om;have k3:(P-g'*V-P)*4294967296^i=(P-g'*V)*4294967296^i-P*4294967296^i:=by rw[sub_mul]
    rw[add_mul]at k2;omega
 ·obtain rfl:j=0:=om;rw[Int.pow_zero,Int.mul_one]at X5;have hq1:=eR hq;have aaI:=eR VO;rw[hql]at hq1;rw[adg]at aaI;rw[<-hq1,<-aaI]at X0;rw[<-aaI]at X5;have Z2:val u=val q*V+val u1:=om;have hVB:V=B*2^s:=aaP;have ady:0<2^s:=pow_pos om;have ahO:0<V:=om;have hdiv:A/B=val q:=by have k1:A*2^s/(B*2^s)=A/B:=Nat.mul_div_mul_right _ _ ady;rw[<-k1,<-huv,<-hVB,Z2,Nat.add_comm,Nat.add_mul_div_right _ _ ahO,Nat.div_eq_of_lt om];omega
  have aaV:A%B=val u1/2^s:=by have k1:A*2^s%(B*2^s)=A%B*2^s:=Nat.mul_mod_mul_right _ _ _;rw[<-huv,<-hVB,Z2,Nat.add_comm,Nat.add_mul_mod_self_right,Nat.mod_eq_of_lt om]at k1;rw[k1,Nat.mul_div_cancel _ ady]
  refine cp hq (by unfold SM;omega) (wF VO (by unfold SM;omega) om (λr hr Vj hrv=>cp hr (by unfold SM;omega) ?_));rw[hrv,<-aaV,<-hdiv];exact h
theorem sK{a b:List Int}(ha:ba a)(hb:ba b)(la:a.length<=1099511627774)(lb:b.length<=1099511627774)(h:Q (lim (gcd (val a) (val b)))):lW a b Q:=by
 refine cp ha (by unfold SM;omega) (cp hb (by unfold SM;omega) ?_);have b1:=iF ha;have b2:=iF hb;refine⟨λy=>∃m n:Nat,y=(lim m,lim n)/\(lim m).length<=1099511627774/\(lim n).length<=1099511627774/\gcd m n=gcd (val a) (val b),λy=>val y.2,⟨_,_,rfl,om,om,rfl⟩,?_⟩;rintro _ ⟨m,n,rfl,hm,hn,hg⟩;refine Qb (λhc=>?_) (λhc=>?_)
 ·have hn0:n≠0:=by rintro rfl;rw[ff]at hc;simp at hc
  refine sL (bc m) (bc n) hm hn (λh0=>absurd (by rw[bQ]at h0;exact h0) hn0) (λ_=>?_)
  rw[bQ,bQ];have QH:=Nat.mod_lt m (Nat.pos_of_ne_zero hn0);refine⟨⟨n,m%n,rfl,hn,le_trans (f_ (Nat.le_of_lt QH)) hn,?_⟩,?_⟩;·grind [Nat.gcd_comm,Nat.gcd_rec]
  ·grind [bQ]
 ·have hn0:n=0:=by grind [ku]
  subst hn0;rw[Nat.gcd_zero_right]at hg;rw[<-hg]at h;exact h
theorem ba.one{x:Int}(h0:0<=x)(h1:x<4294967296):ba [x]:=ba.nil.cons h0 h1
theorem KP{g:Nat}(h:g<4294967296):val [(g:Int)]=g:=by grind [qU,ba.one,tE]
theorem bu{σ:Type}(J:Nat->σ->Prop)(ix:σ->Int)(c:Int)(X_:∀i y,J i y->ix y=i+c){x0:σ}{body:σ->(σ->Prop)->Prop}(h0:J 0 x0)(hs:∀i y (next:σ->Prop),i<n->J i y->(∀z,J (i+1) z->next z)->body y next)(he:∀y (next:σ->Prop),J n y->body y next):aO x0 body:=by
 refine⟨λy=>∃i,i<=n/\J i y,λy=>n-(ix y-c).toNat,⟨0,Nat.zero_le _,h0⟩,?_⟩;rintro y ⟨i,hi,hJ⟩;rcases lt_or_ge i n with h|h;·grind
 ·grind
theorem gB{σ:Type}(f:Nat->σ)(ix:σ->Int)(c:Int)(X_:∀i,ix (f i)=i+c){x0:σ}{body:σ->(σ->Prop)->Prop}(h0:x0=f 0)(hs:∀i (next:σ->Prop),i<n->next (f (i+1))->body (f i) next)(he:∀(next:σ->Prop),body (f n) next):aO x0 body:=bu (λi y=>y=f i) ix c (λi y h=>by rw[h];exact X_ i) h0 (λi y next hi hy hn=>hy▸hs i next hi (hn _ rfl)) (λy next hy=>hy▸he next)
theorem vS(P:Nat->Prop){E:Prop}{st:Int->(Int->Prop)->Prop}(hn:n<=9223372036854775807)(hs:∀(i:Nat) (next:Int->Prop),i<n->(∀j,j<i->¬P j)->(¬P i->Qe ((i:Int)+1)/\next ((i:Int)+1))->st (i:Int) next)(he:(∀j,j<n->¬P j)->E):aO (σ:=Int) 0 (λx next=>af (decide (x<(n:Int))) (st x next) E):=by
 refine bu (n:=n) (λi y=>y=(i:Int)/\∀j,j<i->¬P j) (λy=>y) 0 (λi y h=>by rw[h.1,Int.add_zero]) ⟨rfl,λj hj=>absurd hj om⟩ ?_ ?_;·grind [Qb,Qe]
 ·grind [Qb]
def mT(g:Nat->Int):Nat->Int
 | 0=>0
 | n+1=>if mT g n=0 then g n else mT g n
theorem dv{g:Nat->Int}:∀ {n:Nat},mT g n=0↔∀i,i<n->g i=0
 | 0=>⟨λ_ i hi=>absurd hi om,λ_=>rfl⟩
 | n+1=>by
  rw[mT];constructor
  ·intro h i hi;split at h
   ·rename_i h1;rcases lt_or_ge i n with h2|h2;·exact dv.1 h1 i h2
    ·grind
   ·omega
  ·intro h;rw[if_pos (dv.2 λi hi=>h i om)];exact h n om
theorem lI{g:Nat->Int}{i:Nat}(h:∀j,j<i->g j=0)(hg:g i≠0):∀n,i<n->mT g n=g i
 | 0,hn=>absurd hn om
 | n+1,hn=>by
  rw[mT];rcases lt_or_ge i n with h1|h1;·rw[lI h hg n h1,if_neg hg]
  ·grind [dv]
def SA(neg:Bool)(n:Nat):Int:=if neg then -(n:Int)else n
def ey(q:Rat):QB:=if q.num=0 then ⟨false,[],[]⟩else ⟨decide (q.num<0),lim q.num.natAbs,lim q.den⟩
def D4(a:QB):Rat:=mkRat (SA a.X (val a.J)) (val a.L)
def eqR(a b:QB):Bool:=a.X==b.X&&a.J==b.J&&a.L==b.L
def Wi(a:QB):Bool:=eqR a (ey (D4 a))
def fO(a:QB):Rat:=if Wi a then D4 a else 0
variable{a:QB}
theorem uj{b:QB}:eqR a b=true↔a=b:=by cases a;cases b;simp[eqR,and_assoc]
theorem sW{n:Int}:SA (decide (n<0)) n.natAbs=n:=by grind [SA]
theorem xW(q:Rat):D4 (ey q)=q:=by
 unfold ey;by_cases h:q.num=0;·simp_all [D4,tE]
 ·grind [D4,bQ,sW,Rat.mkRat_self]
theorem Gt(q:Rat):Wi (ey q)=true:=by grind [Wi,xW,uj]
theorem qb(q:Rat):fO (ey q)=q:=by grind [fO,Gt,xW]
theorem BJ(h:Wi a=true):a=ey (fO a):=by have:=uj.1 h;rw[fO,h,if_pos rfl];exact this
def lx(l:List Int):Bool:=decide (0<l.length)&&(l.getD (l.length-1) 0 != 0)
theorem At(h:n≠0):lx (lim n)=true:=by grind [FK,lx]
theorem uW{l:List Int}(hw:ba l)(h:lx l=true):lim (val l)=l/\val l≠0:=by grind [lx,FJ,ff]
variable{b:Bool}
theorem Kd(h:n≠0):decide (SA b n<0)=b:=by grind [SA]
theorem wX:(SA b n).natAbs=n:=by cases b<;>simp[SA]
theorem H3:SA b 0=0:=by cases b<;>rfl
theorem MK(h:n≠0):SA b n≠0:=by grind [wX]
theorem CO{d:Nat}(hn:n≠0)(hd:d≠0):ey (mkRat (SA b n) d)=⟨b,lim (n/gcd n d),lim (d/gcd n d)⟩:=by
 have e1:(mkRat (SA b n) d).num=SA b (n/gcd n d):=by
  rw[Rat.num_mkRat,if_neg hd,wX,Nat.gcd_comm];cases b;·simp[SA]
  ·simp only[SA,if_true];have:((gcd n d:Nat):Int) ∣ (n:Int):=Int.natCast_dvd_natCast.2 (Nat.gcd_dvd_left n d);rw[Int.neg_ediv_of_dvd this];simp
 have e2:(mkRat (SA b n) d).den=d/gcd n d:=by grind [Rat.den_mkRat,wX]
 have hg:0<n/gcd n d:=Nat.div_pos (Nat.le_of_dvd om (Nat.gcd_dvd_left n d)) (Nat.gcd_pos_of_pos_left _ om);unfold ey;rw[e1,e2,if_neg (MK om),Kd om,wX]
theorem Aq{d:Nat}:ey (mkRat (SA b 0) d)=⟨false,[],[]⟩:=by rw[H3,Rat.zero_mkRat];rfl
theorem Kt(hn:ba a.J)(hd:ba a.L) :Wi a=if a.J.length=0/\a.L.length=0 then !a.X else lx a.J&&(lx a.L&&decide (gcd (val a.J) (val a.L)=1)):=by
 obtain⟨b,n,d⟩:=a;simp only at hn hd ⊢;by_cases h:n.length=0/\d.length=0;·rw[if_pos h];obtain rfl:=List.eq_nil_of_length_eq_zero h.1;obtain rfl:=List.eq_nil_of_length_eq_zero h.2;simp only[Wi,D4,tE,Aq];cases b<;>rfl
 ·rw[if_neg h];cases hp:lx n with
  | false=>
   rw[Bool.false_and];cases ho:Wi ⟨b,n,d⟩with
   | false=>rfl
   | true=>
    exfalso;have e:=BJ ho;unfold ey at e;split at e;·simp_all
    ·grind [At]
  | true=>
  rw[Bool.true_and];cases hq:lx d with
  | false=>
   rw[Bool.false_and];cases ho:Wi ⟨b,n,d⟩with
   | false=>rfl
   | true=>
    exfalso;have e:=BJ ho;unfold ey at e;split at e;·simp_all
    ·grind [At,Rat.den_nz]
  | true=>
  rw[Bool.true_and];obtain⟨n1,n2⟩:=uW hn hp;obtain⟨d1,d2⟩:=uW hd hq;have hm:ey (D4 ⟨b,n,d⟩)=⟨b,lim (val n/gcd (val n) (val d)),lim (val d/gcd (val n) (val d))⟩:=CO n2 d2;by_cases hg:gcd (val n) (val d)=1;·grind [Wi,uj]
  ·simp only[hg,decide_false];cases ho:Wi ⟨b,n,d⟩with
   | false=>rfl
   | true=>
    exfalso;have e:=uj.1 ho;rw[hm]at e;injection e with e1 e2 e3;have e4:val n=val n/gcd (val n) (val d):=by grind [bQ]
    have hgp:0<gcd (val n) (val d):=Nat.gcd_pos_of_pos_left _ om;have:=Nat.div_lt_self (n:=val n) om (show 1<gcd (val n) (val d)by omega);omega
def RB(k:Nat)(q:Rat):Prop:=q.num.natAbs<2^k/\q.den<2^k
variable{l:Nat}{q:Rat}
theorem RB.mono(h:RB k q)(hkl:k<=l):RB l q:=⟨lt_of_lt_of_le h.1 (pow_le_pow_right om hkl),lt_of_lt_of_le h.2 (pow_le_pow_right om hkl)⟩
theorem gT(h:n<2^k):(lim n).length<=k/32+1:=by
 refine Ek (lt_of_lt_of_le h ?_);have:(4294967296:Nat)^(k/32+1)=2^(32*(k/32+1)):=by rw[Nat.pow_mul]
 rw[this];exact pow_le_pow_right om om
theorem Lm(k:Nat)(hk:1<=k):RB k 0:=⟨by simp;exact pow_pos om,by
 have:2^1<=2^k:=pow_le_pow_right om hk;simp;omega⟩
variable{m:Nat}
theorem gL(h:m<2^k)(h':n<2^l):m*n<2^(k+l):=by simp_all [pow_add,Nat.mul_lt_mul'']
theorem zu{n:Int}{d:Nat}(hd:d≠0)(hn:n.natAbs<2^k)(hdk:d<2^k):RB k (mkRat n d):=by
 refine⟨?_,?_⟩;·grind [Rat.num_mkRat,Int.natAbs_ediv_le_natAbs]
 ·rw[Rat.den_mkRat,if_neg hd];exact Nat.lt_of_le_of_lt (Nat.div_le_self _ _) hdk
variable{p:Rat}
theorem NK(hp:RB k p)(hq:RB l q):RB (k+l) (p*q):=by rw[Rat.mul_def'];refine zu (Nat.mul_ne_zero p.den_nz q.den_nz) ?_ (gL hp.2 hq.2);rw[Int.natAbs_mul];exact gL hp.1 hq.1
theorem EJ(hp:RB k p)(hq:RB l q):RB (k+l+1) (p+q):=by
 rw[Rat.add_def'];refine zu (Nat.mul_ne_zero p.den_nz q.den_nz) ?_ (lt_of_lt_of_le (gL hp.2 hq.2) (pow_le_pow_right om om));have h1:(p.num*q.den).natAbs<2^(k+l):=by rw[Int.natAbs_mul];exact gL hp.1 (by simpa using hq.2)
 have h2:(q.num*p.den).natAbs<2^(k+l):=by rw[Int.natAbs_mul,Nat.add_comm k l];exact gL hq.1 (by simpa using hp.2)
 have h3:=Int.natAbs_add_le (p.num*q.den) (q.num*p.den);rw[Nat.pow_succ];omega
theorem EI(hp:RB k p):RB k (-p):=⟨by simpa using hp.1,hp.2⟩
theorem NL(hp:RB k p):RB k p⁻¹:=by
 by_cases h0:p.num=0;·simp_all
 ·refine⟨?_,?_⟩;·rw[Rat.num_inv,Int.natAbs_mul,Int.natAbs_sign_of_ne_zero h0,Nat.one_mul];simpa using hp.2
  ·rw[Rat.den_inv,if_neg h0];exact hp.1
theorem Jw(hp:RB k p)(hq:RB l q):RB (k+l) (p/q):=by grind [NK,NL]
theorem NJ(hp:RB k p)(hq:RB l q):RB (k+l+1) (p-q):=by grind [Rat.sub_eq_add_neg,EJ,EI]
theorem NM{n:Int}(hk:1<=k)(h:n.natAbs<2^k):RB k (n:Rat):=⟨h,by
 have:2^1<=2^k:=pow_le_pow_right om hk;show 1<2^k;omega⟩
def Fr(a:QB):Prop:=ba a.J/\ba a.L/\a.J.length<=1099511627760/\a.L.length<=1099511627760
theorem zB(h:RB k q)(hk:k<=35184372088000):Fr (ey q):=by
 unfold ey;split;·exact⟨ba.nil,ba.nil,by simp,by simp⟩
 ·have h1:=gT h.1;have h2:=gT h.2;exact⟨bc _,bc _,by dsimp only;omega,by dsimp only;omega⟩
theorem kw:((lim n).length:Int)=0↔n=0:=by grind [ku,ff]
theorem uF:(dE n:Int)=0↔n=0:=by grind [dE]
theorem Ke:SA b (m*n)=SA b m*(n:Int):=by grind [SA]
variable{c:Bool}
theorem H4:SA (b != c) (m*n)=SA b m*SA c n:=by grind [SA,Int.natCast_mul,Int.neg_mul,Int.mul_neg]
theorem Kf:SA b (m+n)=SA b m+SA b n:=by grind [SA]
theorem Fh(hbc:¬b=c)(h:n<=m):SA b (m-n)=SA b m+SA c n:=by grind [SA]
theorem CI(q:Rat):SA (decide (q.num<0)) q.num.natAbs=q.num:=sW
theorem Bg:val [1]=1:=KP (g:=1) om
theorem Ov:lim 1=[1]:=by grind [ku,ff]
theorem A':ba [1]:=ba.one om om
theorem fU{neg:Bool}{num den:List Int}{Q:QB->Prop}(hn:ba num)(hd:ba den)(ln:num.length<=1099511627760)(ld:den.length<=1099511627760)(h0:val den≠0)(h:Q (ey (mkRat (SA neg (val num)) (val den)))):dc neg num den Q:=by
 refine yp hn (by unfold SM;omega) (bk (λhc=>?_) (λhc=>?_))
 ·grind [uF,Aq]
 ·grind [uF,CO,sK,lim,le_trans,f_,Nat.gcd_le_left,iF,sL,bc,bQ]
theorem pE{a:List Int}{Q:Bool->Prop}(la:a.length<=1099511627776)(h:Q (lx a)):iR a Q:=by
 refine Qb (λhc=>⟨Qo,om,?_⟩) (λhc=>?_)
 ·have e:lx a=(P9 a ((a.length:Int)-1) != 0):=by grind [oB,lx]
  rw[<-e];exact h
 ·have e:lx a=false:=by grind [lx]
  rw[e]at h;exact h
theorem aB{p q:Prop}(h1:b=true->p)(h2:b=false->q):af b p q:=⟨h1,h2⟩
theorem wG{Q:Int->Prop}(hl:(lim n).length<=1099511627776)(h:Q (wR n 1)):ft (lim n) [1] Q:=by grind [l_,bc,A',bQ,Bg]
theorem Jb:(wR m n==0)=decide (m=n):=by grind [wR]
theorem uQ{Q:Bool->Prop}(fa:Fr a)(h:Q (Wi a)):lr a Q:=by
 obtain⟨hn,hd,ln,ld⟩:=fa;rw[Kt hn hd]at h;refine⟨λx=>x=decide (a.J.length=0/\a.L.length=0),?_,?_⟩
 ·refine bk (λhc=>?_) (λhc=>?_)
  ·grind
  ·simp_all
 ·rintro _ rfl;refine Qb (λhc=>?_) (λhc=>?_)
  ·simp_all
  ·rw[if_neg hc]at h;refine pE om (aB (λhp=>?_) (λhp=>?_))
   ·rw[hp,Bool.true_and]at h;refine pE om (aB (λhq=>?_) (λhq=>?_))
    ·rw[hq,Bool.true_and]at h;refine sK hn hd om om ?_;have hgl:(lim (gcd (val a.J) (val a.L))).length<=1099511627760:=by refine le_trans (f_ (Nat.gcd_le_left _ ?_)) (le_trans (iF hn) ln);have:=(uW hn hp).2;omega
     show ft (lim (gcd (val a.J) (val a.L))) [1] (λr4=>Q (r4==0));refine wG om ?_;rw[Jb];exact h
    ·simp_all
   ·simp_all
theorem Hx(h:Wi a=false):fO a=0:=by rw[fO,h];rfl
theorem D6(h:Wi a=true->a.J.length=0):fO a=0:=by grind [Hx,BJ,ey,Rat.num_eq_zero,kw]
theorem D7(ho:Wi a=true)(hl:a.J.length≠0):(fO a).num≠0/\a=⟨decide ((fO a).num<0),lim (fO a).num.natAbs,lim (fO a).den⟩:=by grind [BJ,ey]
theorem fw{Q:Bool->List Int->List Int->Prop}(fa:Fr a)(h:Q (decide ((fO a).num<0)) (lim (fO a).num.natAbs) (lim (fO a).den)):dm a Q:=by
 refine⟨λx=>x=(!Wi a||decide (a.J.length=0)),?_,?_⟩
 ·refine uQ fa (aB (λhc=>?_) (λhc=>?_))
  ·rw[hc];rfl
  ·grind
 ·rintro _ rfl;refine aB (λhc=>?_) (λhc=>?_)
  ·have hz:fO a=0:=D6 (λho=>by rw[ho]at hc;simpa using hc);rw[hz]at h;simp at h;rw[ff,Ov]at h;exact h
  ·grind [D7]
theorem zq(h:RB k q):(lim q.num.natAbs).length<=k/32+1/\(lim q.den).length<=k/32+1:=⟨gT h.1,gT h.2⟩
theorem ua(h:m<2^k)(h':n<2^l):(lim (m*n)).length<=(k+l)/32+1:=gT (gL h h')
theorem Lf(h:m<2^k)(h':n<2^k):(lim (m+n)).length<=(k+1)/32+1:=gT (by rw[Nat.pow_succ];omega)
theorem Jp(p q:Rat):p+q=mkRat (SA (decide (p.num<0)) (p.num.natAbs*q.den)+SA (decide (q.num<0)) (q.num.natAbs*p.den)) (p.den*q.den):=by grind [Ke,CI,Rat.add_def']
theorem IW(_h:q.num≠0):q⁻¹=mkRat (SA (decide (q.num<0)) q.den) q.num.natAbs:=by
 rw[Rat.inv_def];by_cases hn:q.num<0;·rw[decide_eq_true hn];have e:q.num = -((q.num.natAbs:Nat):Int):=om;rw[<-Rat.divInt_ofNat];show Rat.divInt q.den q.num=Rat.divInt (-(q.den:Int)) _;rw[<-Rat.divInt_neg',<-e]
 ·rw[decide_eq_false hn];have e:q.num=((q.num.natAbs:Nat):Int):=om;rw[<-Rat.divInt_ofNat];show Rat.divInt q.den q.num=Rat.divInt (q.den:Int) _;rw[<-e]
theorem I3(p:Rat)(h:q.num≠0):p/q=mkRat (SA (decide (p.num<0) != decide (q.num<0)) (p.num.natAbs*q.den)) (p.den*q.num.natAbs):=by rw[Rat.div_def,IW h,H4,CI];have:p=mkRat p.num p.den:=(Rat.mkRat_self p).symm;rw[this,Rat.mkRat_mul_mkRat,<-this]
theorem IE(p:Rat) : -p=mkRat (SA (!decide (p.num<0)) p.num.natAbs) p.den:=by grind [SA,Rat.neg_mkRat,Rat.mkRat_self]
theorem ri{b:QB}{Q:QB->Prop}(fa:Fr a)(fb:Fr b)(ka:RB k (fO a))(kb:RB l (fO b))(hk:k+l+1<=35184372088000)(h:Q (ey (fO a+fO b))):fD a b Q:=by
 refine fw fa (fw fb ?_);generalize fO a=p at ka h ⊢;generalize fO b=q at kb h ⊢;have la:=zq ka;have lb:=zq kb;have l1:=ua ka.1 kb.2;have l2:=ua kb.1 ka.2;have l3:=ua ka.2 kb.2;have hd:p.den*q.den≠0:=Nat.mul_ne_zero p.den_nz q.den_nz;refine jk (bc _) (bc _) om (jk (bc _) (bc _) om (jk (bc _) (bc _) om ?_));simp only[bQ];rw[Jp]at h;refine bk (λhs=>?_) (λhs=>?_)
 ·refine zW (bc _) (bc _) (by unfold SM;omega) ⟨om,om⟩ ?_;simp only[bQ];have l4:(lim (p.num.natAbs*q.den+q.num.natAbs*p.den)).length<=(k+l+1)/32+1:=Lf (gL ka.1 kb.2) (by rw[Nat.add_comm k];exact gL kb.1 ka.2);refine fU (bc _) (bc _) om om (by rw[bQ];exact hd) ?_;rw[bQ,bQ,Kf];rw[<-hs]at h;exact h
 ·refine l_ (bc _) (bc _) (by unfold SM;omega) (by unfold SM;omega) ?_;simp only[bQ];refine Qb (λhc=>?_) (λhc=>?_)
  ·have hle:q.num.natAbs*p.den<=p.num.natAbs*q.den:=by
    rcases lt_or_ge (p.num.natAbs*q.den) (q.num.natAbs*p.den)with h1|h1;·have:=uy.2 h1;omega
    ·exact h1
   refine sJ (bc _) (bc _) (by unfold SM;omega) (by unfold SM;omega) (λhh=>by rw[bQ,bQ]at hh;omega) (λ_=>?_)
   simp only[bQ];have l4:=f_ (Nat.sub_le (p.num.natAbs*q.den) (q.num.natAbs*p.den));refine fU (bc _) (bc _) om om (by rw[bQ];exact hd) ?_;rw[bQ,bQ,Fh hs hle];exact h
  ·have hle:p.num.natAbs*q.den<=q.num.natAbs*p.den:=by grind [wR]
   refine sJ (bc _) (bc _) (by unfold SM;omega) (by unfold SM;omega) (λhh=>by rw[bQ,bQ]at hh;omega) (λ_=>?_)
   simp only[bQ];have l4:=f_ (Nat.sub_le (q.num.natAbs*p.den) (p.num.natAbs*q.den));refine fU (bc _) (bc _) om om (by rw[bQ];exact hd) ?_;rw[bQ,bQ,Fh (λe=>hs e.symm) hle,add_comm];exact h
theorem xZ{b:QB}{Q:QB->Option Int->Prop}(fa:Fr a)(fb:Fr b)(ka:RB k (fO a))(kb:RB l (fO b))(hk:k+l+1<=35184372088000)(h0:fO b=0->Q (ey 0) (some 8))(h:fO b≠0->Q (ey (fO a/fO b)) none):iA a b Q:=by
 refine fw fa (fw fb ?_);generalize fO a=p at ka h ⊢;generalize fO b=q at kb h h0 ⊢;have la:=zq ka;have lb:=zq kb;have l1:=ua ka.1 kb.2;have l3:=ua ka.2 kb.1;refine bk (λhc=>?_) (λhc=>?_)
 ·rw[kw]at hc;exact h0 (Rat.num_eq_zero.1 om)
 ·have hq:q.num≠0:=λhh=>hc (kw.2 om);have hd:p.den*q.num.natAbs≠0:=Nat.mul_ne_zero p.den_nz om;refine jk (bc _) (bc _) om (jk (bc _) (bc _) om ?_);simp only[bQ];refine fU (bc _) (bc _) om om (by rw[bQ];exact hd) ?_;rw[bQ,bQ,<-I3 p hq];exact h (λhh=>hq (by rw[hh];rfl))
theorem xY{Q:QB->Prop}(fa:Fr a)(ka:RB k (fO a))(hk:k<=35184372088000)(h:Q (ey (-fO a))):nV a Q:=by refine fw fa ?_;generalize fO a=p at ka h ⊢;have la:=zq ka;refine fU (bc _) (bc _) om om (by rw[bQ];exact p.den_nz) ?_;rw[bQ,bQ,<-IE];exact h
theorem xX{b:QB}{Q:QB->Prop}(fa:Fr a)(fb:Fr b)(ka:RB k (fO a))(kb:RB l (fO b))(hk:k+l+1<=35184372088000)(h:Q (ey (fO a-fO b))):nU a b Q:=by refine⟨_,xY fb kb om rfl,_,ri fa (zB (EI kb) om) ka (by rw[qb];exact EI kb) hk rfl,?_⟩;rw[qb,<-Rat.sub_eq_add_neg];exact h
def wo(q:Rat):Int:=if q.num=0 then 0 else if q.num<0 then -1 else 1
theorem qD{Q:Int->Prop}(fa:Fr a)(h:Q (wo (fO a))):gX a Q:=by
 refine fw fa ?_;generalize fO a=p at h ⊢;unfold wo at h;refine bk (λhc=>?_) (λhc=>?_)
 ·grind [kw]
 ·grind [kw,Qb]
theorem x_{b:QB}{Q:Int->Prop}(fa:Fr a)(fb:Fr b)(ka:RB k (fO a))(kb:RB l (fO b))(hk:k+l+1<=35184372088000)(h:Q (wo (fO a-fO b))):iB a b Q:=by refine xX fa fb ka kb hk (qD (zB (NJ ka kb) hk) ?_);rw[qb];exact h
theorem wA{n:Int}(hn:Qe n)(h:Q (lim n.natAbs)):mL n Q:=by
 refine bk (λhc=>?_) (λhc=>?_)
 ·grind [ku,ff]
 ·grind [Qe,t_]
theorem zR{n:Int}{Q:QB->Prop}(hn:Qe n)(h:Q (ey (n:Rat))):jh n Q:=by refine wA hn ?_;show dc _ _ [1] _;have hl:(lim n.natAbs).length<=64/32+1:=gT (by unfold Qe at hn;omega);refine fU (bc _) A' om Qy (by rw[Bg];omega) ?_;rw[bQ,Bg,sW,show mkRat n 1=(n:Rat)from Rat.mkRat_self (n:Rat)];exact h
theorem I1[Inhabited α]{l m:List α}(hl:l.length=m.length)(h:∀i:Nat,i<l.length->P9 l (i:Int)=P9 m (i:Int)):l=m:=by grind [List.ext_getElem,P9]
instance afJ:DecidableEq QB:=λ_ _=>decidable_of_iff _ uj
def pU(e:Int):Option Int:=if e=0 then none else some e
def Rp(k:Nat)(a:QB)(q:Rat):Prop:=Fr a/\fO a=q/\RB k q
abbrev cap:Nat:=35184372088000
theorem Rp.of(h:RB k q)(hk:k<=cap):Rp k (ey q) q:=⟨zB h hk,qb q,h⟩
theorem Rp.mono{a:QB}{q:Rat}{k l:Nat}(h:Rp k a q)(hkl:k<=l):Rp l a q:=⟨h.1,h.2.1,h.2.2.mono hkl⟩
theorem Rp.len(h:Rp k a q):a.J.length<=1099511627776/\a.L.length<=1099511627776:=⟨le_trans h.1.2.2.1 om,le_trans h.1.2.2.2 om⟩
theorem Rp.zero(hk:1<=k)(YF:k<=cap):Rp k (⟨false,[],[]⟩:QB) 0:=.of (Lm k hk) YF
theorem He{n:Int}(hn:Qe n):RB 64 (n:Rat):=NM om (by unfold Qe at hn;omega)
theorem H5:wo q<0↔q<0:=by
 unfold wo;have h1:q.num<0↔q<0:=by have:=Rat.num_nonneg (q:=q);rw[<-Int.not_le,this,Rat.not_le]
 split;·simp_all
 ·grind
theorem Fi:wo q=0↔q=0:=by grind [wo,Rat.num_eq_zero]
theorem Pb{b:QB}{Q:QB->Prop}(ha:Rp k a p)(hb:Rp l b q)(hk:k+l+1<=cap)(h:Rp (k+l+1) (ey (p+q)) (p+q)->Q (ey (p+q))):fD a b Q:=by obtain⟨fa,rfl,ka⟩:=ha;obtain⟨fb,rfl,kb⟩:=hb;exact ri fa fb ka kb hk (h (.of (EJ ka kb) hk))
variable{K:QB->Prop}
theorem NC{b:QB}(ha:Rp k a p)(hb:Rp l b q)(hk:k+l+1<=cap)(h:Rp (k+l+1) (ey (p+q)) (p+q)->K (ey (p+q))):my (fD a b) K:=⟨_,Pb ha hb hk (λ_=>rfl),h (.of (EJ ha.2.2 hb.2.2) hk)⟩
theorem O1{b:QB}{Q:QB->Option Int->Prop}(ha:Rp k a p)(hb:Rp l b q)(hk:k+l+1<=cap)(h0:q=0->Q (ey 0) (some 8))(h:q≠0->Rp (k+l) (ey (p/q)) (p/q)->Q (ey (p/q)) none):iA a b Q:=by obtain⟨fa,rfl,ka⟩:=ha;obtain⟨fb,rfl,kb⟩:=hb;exact xZ fa fb ka kb hk h0 (λhn=>h hn (.of (Jw ka kb) (by simp only[cap]at hk ⊢;omega)))
theorem Nn{b:QB}{K:QB->Option Int->Prop}(ha:Rp k a p)(hb:Rp l b q)(hk:k+l+1<=cap)(hq:q≠0)(h:Rp (k+l) (ey (p/q)) (p/q)->K (ey (p/q)) none):Dl (iA a b) K:=⟨_,_,O1 ha hb hk (λe=>absurd e hq) (λ_ _=>⟨rfl,rfl⟩),h (.of (Jw ha.2.2 hb.2.2) (by simp only[cap]at hk ⊢;omega))⟩
theorem MJ{Q:Int->Prop}(ha:Rp k a p)(h:Q (wo p)):gX a Q:=by obtain⟨fa,rfl,ka⟩:=ha;exact qD fa h
theorem O3{b:QB}{Q:Int->Prop}(ha:Rp k a p)(hb:Rp l b q)(hk:k+l+1<=cap)(h:Q (wo (p-q))):iB a b Q:=by obtain⟨fa,rfl,ka⟩:=ha;obtain⟨fb,rfl,kb⟩:=hb;exact x_ fa fb ka kb hk h
theorem Ns{b:QB}{K:Int->Prop}(ha:Rp k a p)(hb:Rp l b q)(hk:k+l+1<=cap)(h:K (wo (p-q))):my (iB a b) K:=⟨_,O3 ha hb hk rfl,h⟩
theorem LL{n:Int}(hn:Qe n)(h:Rp 64 (ey (n:Rat)) (n:Rat)->K (ey (n:Rat))):my (jh n) K:=⟨_,zR hn rfl,h (.of (He hn) (by decide))⟩
def pZ(k:Int)(n:Nat):Bool:=if k=0 then decide (n=0)else if k=1 then decide (n=1)else decide (1<=n/\n<=16)
def jO(f:GFormula)(i:Nat):Int:=
 if (P9 f.N (i:Int)).U<0\/5<(P9 f.N (i:Int)).U then 7
 else if pZ (P9 f.N (i:Int)).U (P9 f.N (i:Int)).Z.length=false then 11
 else if ∃j<(P9 f.N (i:Int)).Z.length,P9 (P9 f.N (i:Int)).Z (j:Int)<0\/f.Y+i<=P9 (P9 f.N (i:Int)).Z (j:Int)then 10
 else if (P9 f.N (i:Int)).U=0 then (if (P9 f.N (i:Int)).K≠0/\(P9 f.N (i:Int)).K≠1 then 3 else 0)
 else if (P9 f.N (i:Int)).U=4 then (if (P9 f.N (i:Int)).K<1\/((P9 f.N (i:Int)).Z.length:Int)<(P9 f.N (i:Int)).K then 3 else 0)
 else if (P9 f.N (i:Int)).K≠0 then 2 else 0
def uL(f:GFormula)(a:Int):Bool:=decide (0<=f.Y/\0<=a/\(a<f.Y\/a-f.Y<f.N.length))
def qw(f:GFormula):Int:=
 if f.Y<0\/24<f.Y then 3 else if 128<f.N.length then 4
 else if mT (jO f) f.N.length≠0 then mT (jO f) f.N.length
 else if uL f f.A=false then 10 else 0
theorem Dt{k:Int}(h:pZ k n=true):n<=16:=by grind [pZ]
theorem ss{k:Int}{Q:Bool->Prop}(h:Q (pZ k n)):jb k n Q:=by
 unfold pZ at h;refine bk (λhc=>?_) (λhc=>bk (λUO=>?_) (λUO=>Qb (λh1=>?_) (λh1=>?_)))
 ·grind [decide]
 ·grind [decide]
 ·grind [decide]
 ·grind
variable{f:GFormula}
theorem sr{Q:Option Int->Prop}(hi:i<f.N.length)(hV:0<=f.Y/\f.Y<=24)(hn:f.N.length<=128)(h:Q (pU (jO f i))):ja f i Q:=by
 unfold jO at h;refine⟨⟨om,om⟩,λy=>y=decide ((P9 f.N (i:Int)).U<0\/5<(P9 f.N (i:Int)).U),?_,?_⟩;·grind [Qb]
 rintro _ rfl;refine Qb (λhc=>?_) (λhc=>?_)
 ·rw[if_pos hc]at h;exact h
 rw[if_neg hc]at h;refine ss (aB (λhb=>?_) (λhb=>?_))
 ·rw[if_pos (by simpa using hb)]at h;exact h
 simp only[Bool.not_eq_false']at hb;rw[if_neg (by rw[hb];simp)]at h;have hl:=Dt hb;refine vS (λj=>P9 (P9 f.N (i:Int)).Z (j:Int)<0\/f.Y+i<=P9 (P9 f.N (i:Int)).Z (j:Int)) om (λj next hj hI Q6=>?_) (λSj=>?_)
 ·refine⟨⟨om,om⟩,λy=>y=decide (P9 (P9 f.N (i:Int)).Z (j:Int)<0\/f.Y+i<=P9 (P9 f.N (i:Int)).Z (j:Int)),?_,?_⟩;·grind [Qb,Qe]
  ·rintro _ rfl;refine Qb (λV0=>?_) (λV0=>Q6 V0);rw[if_pos ⟨j,hj,V0⟩]at h;exact h
 rw[if_neg (by rintro⟨j,hj,V0⟩;exact Sj j hj V0)]at h;refine bk (λh0=>?_) (λh0=>?_)
 ·rw[if_pos h0]at h;refine⟨λy=>y=decide ((P9 f.N (i:Int)).K≠0/\(P9 f.N (i:Int)).K≠1),?_,?_⟩
  ·refine iY (λhk=>?_) (λhk=>?_)
   ·grind
   ·simp_all
  ·rintro _ rfl;refine Qb (λhk=>?_) (λhk=>?_)
   ·rw[if_pos hk]at h;exact h
   ·rw[if_neg hk]at h;exact h
 rw[if_neg h0]at h;refine bk (λh4=>?_) (λh4=>?_)
 ·rw[if_pos h4]at h;refine⟨λy=>y=decide ((P9 f.N (i:Int)).K<1\/((P9 f.N (i:Int)).Z.length:Int)<(P9 f.N (i:Int)).K),?_,?_⟩;·grind [Qb]
  ·rintro _ rfl;refine Qb (λhk=>?_) (λhk=>?_)
   ·rw[if_pos hk]at h;exact h
   ·rw[if_neg hk]at h;exact h
 rw[if_neg h4]at h;refine iY (λhk=>?_) (λhk=>?_)
 ·rw[if_pos hk]at h;exact h
 ·rw[if_neg (λhh=>hh hk)]at h;exact h
theorem BD{Q:Int->Prop}(hi:i<f.N.length)(hV:0<=f.Y/\f.Y<=24)(hn:f.N.length<=128)(h:Q (jO f i)):qh f i Q:=by
 unfold jO at h;have hf7:((P9 f.N (i:Int)).U≠0/\(P9 f.N (i:Int)).U≠1/\(P9 f.N (i:Int)).U≠2/\(P9 f.N (i:Int)).U≠3/\(P9 f.N (i:Int)).U≠4/\(P9 f.N (i:Int)).U≠5)->Q 7:=λhh=>by grind
 refine⟨⟨om,om⟩,λy=>(0<=(P9 f.N (i:Int)).U/\(P9 f.N (i:Int)).U<=5)/\(0<=y.1/\y.1<=1/\0<=y.2/\y.2<=16)/\∀n:Nat,pZ (P9 f.N (i:Int)).U n=decide (y.1<=n/\(n:Int)<=y.2),?_,?_⟩
 ·have VZ:∀n:Nat,(P9 f.N (i:Int)).U≠0->(P9 f.N (i:Int)).U≠1->pZ (P9 f.N (i:Int)).U n=decide ((1:Int)<=n/\(n:Int)<=16):=λn h0 h1=>by grind [pZ]
  refine bk (λh0:(P9 f.N (i:Int)).U=0=>⟨om,by decide,λn=>by rw[pZ,if_pos h0];exact decide_eq_decide.2 (by dsimp only;omega)⟩) (λh0=>bk (λh1:(P9 f.N (i:Int)).U=1=>⟨om,by decide,λn=>by rw[pZ,if_neg h0,if_pos h1];exact decide_eq_decide.2 (by dsimp only;omega)⟩) (λh1=>?_))
  exact bk (λh2:(P9 f.N (i:Int)).U=2=>⟨om,by decide,λn=>VZ n h0 h1⟩) (λh2=>bk (λh3:(P9 f.N (i:Int)).U=3=>⟨om,by decide,λn=>VZ n h0 h1⟩) (λh3=>bk (λh4:(P9 f.N (i:Int)).U=4=>⟨om,by decide,λn=>VZ n h0 h1⟩) (λh4=>bk (λh5:(P9 f.N (i:Int)).U=5=>⟨om,by decide,λn=>VZ n h0 h1⟩) (λh5=>hf7 ⟨h0,h1,h2,h3,h4,h5⟩))))
 rintro⟨lo,UZ⟩ ⟨ajS,hb,hargs⟩;dsimp only at hb hargs;rw[if_neg om]at h;refine Qb (λ(hc:((P9 f.N (i:Int)).Z.length:Int)<lo)=>?_) (λ(hc:¬((P9 f.N (i:Int)).Z.length:Int)<lo)=>Qb (λ(Sw:UZ<((P9 f.N (i:Int)).Z.length:Int))=>?_) (λ(Sw:¬UZ<((P9 f.N (i:Int)).Z.length:Int))=>?_));·grind
 ·simp_all
 rw[if_neg (by rw[hargs,decide_eq_true om];simp)]at h;refine vS (n:=(P9 f.N (i:Int)).Z.length) (λj=>P9 (P9 f.N (i:Int)).Z (j:Int)<0\/f.Y+i<=P9 (P9 f.N (i:Int)).Z (j:Int)) om (λj next hj hI Q6=>?_) (λSj=>?_)
 ·refine⟨⟨om,show(j:Int)<((P9 f.N (i:Int)).Z.length:Int)by omega⟩,Qb (λYH=>?_) (λYH=>⟨Qo,Qb (λhc4=>?_) (λhc4=>Q6 (by rw[not_or];exact⟨YH,hc4⟩))⟩)⟩;·rw[if_pos ⟨j,hj,Or.inl YH⟩]at h;exact h
  ·rw[if_pos ⟨j,hj,Or.inr hc4⟩]at h;exact h
 rw[if_neg (by rintro⟨j,hj,V0⟩;exact Sj j hj V0)]at h;refine bk (λh0=>?_) (λh0=>?_)
 ·rw[if_pos h0]at h;refine iY (λhk=>iY (λhk1=>?_) (λhk1=>?_)) (λhk=>?_)
  ·simp_all
  ·simp_all
  ·simp_all
 rw[if_neg h0]at h;refine bk (λh4=>?_) (λh4=>?_)
 ·grind [Qb]
 rw[if_neg h4]at h;refine iY (λhk=>?_) (λhk=>?_)
 ·simp_all
 ·simp_all
theorem qJ{a:Int}{Q:Bool->Prop}(ha:Qe a)(h:Q (uL f a)):mS f a Q:=by
 unfold uL at h;unfold Qe at ha;refine Qb (λh1=>Qb (λh2=>Qb (λh3=>?_) (λh3=>⟨Qo,?_⟩)) (λh2=>?_)) (λh1=>?_)
 ·simp_all
 ·simp_all
 ·simp_all
 ·simp_all
theorem zP{a:Int}{Q:Bool->Prop}(ha:Qe a)(h:Q (uL f a)):pj f a Q:=qJ ha h
variable{e:Int}
theorem rA:(pU e).isSome=decide (e≠0):=by grind [pU]
theorem eV{Q:Option Int->Prop}(ht:Qe f.A)(h:Q (pU (qw f))):dT f Q:=by
 unfold qw at h;refine⟨λy=>y=decide (f.Y<0\/24<f.Y),?_,?_⟩;·grind [Qb]
 rintro _ rfl;refine Qb (λhc=>?_) (λhc=>?_)
 ·rw[if_pos hc]at h;exact h
 rw[if_neg hc]at h;refine Qb (λSw=>?_) (λSw=>?_)
 ·rw[if_pos om]at h;exact h
 rw[if_neg om]at h;refine vS (λi=>jO f i≠0) om (λi next hi hI Q6=>?_) (λSj=>?_)
 ·refine sr hi om om ?_;rw[rA];refine Qb (λhe=>?_) (λhe=>Q6 he);rw[lI (λj hj=>Decidable.not_not.1 (hI j hj)) he _ hi,if_pos he]at h;exact h
 ·rw[if_neg (λhh=>hh (dv.2 λj hj=>Decidable.not_not.1 (Sj j hj)))]at h;refine qJ ht (aB (λhb=>?_) (λhb=>?_))
  ·rw[if_pos (by simpa using hb)]at h;exact h
  ·rw[if_neg (by simpa using hb)]at h;exact h
theorem zQ{Q:Int->Prop}(ht:Qe f.A)(h:Q (qw f)):pk f Q:=by
 unfold qw at h;refine Qb (λhc=>?_) (λhc=>Qb (λUO=>?_) (λUO=>?_))
 ·simp_all
 ·simp_all
 rw[if_neg om]at h;refine Qb (λSw=>?_) (λSw=>?_)
 ·grind
 rw[if_neg om]at h;refine vS (λi=>jO f i≠0) om (λi next hi hI Q6=>?_) (λSj=>?_)
 ·refine BD hi om om (iY (λhe=>?_) (λhe=>Q6 (λhh=>hh he)));rw[lI (λj hj=>Decidable.not_not.1 (hI j hj)) he _ hi,if_pos he]at h;exact h
 ·grind [dv,zP,aB]
structure FG(f:GFormula):Prop where
 v0:0<=f.Y
 v24:f.Y<=24
 n128:f.N.length<=128
 node:∀i,i<f.N.length->jO f i=0
 Sd:0<=f.A
 top:f.A<f.Y+f.N.length
theorem kM:qw f=0↔FG f:=by
 unfold qw;constructor
 ·intro h;split at h;·cases h
  split at h;·cases h
  split at h;·omega
  split at h;·cases h
  rename_i h1 h2 h3 h4;rw[Decidable.not_not]at h3;have h5:=dv.1 h3;simp only[uL,Bool.not_eq_false,decide_eq_true_eq]at h4;exact⟨om,om,om,h5,om,om⟩
 ·intro h;rw[if_neg (by have:=h.v0;have:=h.v24;omega),if_neg (by have:=h.n128;omega),if_neg (λhh=>hh (dv.2 h.node)),if_neg];have:=h.v0;have:=h.Sd;have:=h.top;simp only[uL,Bool.not_eq_false,decide_eq_true_eq];omega
structure NG(f:GFormula)(i:Nat):Prop where
 k0:0<=(P9 f.N (i:Int)).U
 k5:(P9 f.N (i:Int)).U<=5
 len:(P9 f.N (i:Int)).Z.length<=16
 arg:∀j:Nat,j<(P9 f.N (i:Int)).Z.length->0<=P9 (P9 f.N (i:Int)).Z (j:Int)/\P9 (P9 f.N (i:Int)).Z (j:Int)<f.Y+i
 args:pZ (P9 f.N (i:Int)).U (P9 f.N (i:Int)).Z.length=true
theorem dq(h:jO f i=0):NG f i:=by
 unfold jO at h;split at h;·cases h
 split at h;·cases h
 split at h;·cases h
 rename_i h1 h2 h3;refine⟨om,om,Dt (by simpa using h2),λj hj=>?_,by simpa using h2⟩;rw[not_exists]at h3;have:=h3 j;simp only[hj,true_and,not_or]at this;omega
theorem zd(h0:0<=y)(h1:y<4294967296):bits .and .i64 y 1=y%2:=by obtain⟨m,rfl⟩:=eq_ofNat_of_zero_le h0;show IntKind.i64.wrap (((BitVec.ofInt 64 (m:Int)) &&& (BitVec.ofInt 64 1)).toNat:Int)=_;rw[BitVec.toNat_and,BitVec.toNat_ofInt,BitVec.toNat_ofInt];have e1:((m:Int)%((2^64:Nat):Int)).toNat=m:=om;have e2:((1:Int)%((2^64:Nat):Int)).toNat=1:=om;rw[e1,e2,Nat.and_one_is_mod];have e3:m%2=0\/m%2=1:=om;have e4:(m:Int)%2=((m%2:Nat):Int):=om;rw[e4];rcases e3 with e|e<;>rw[e]<;>rfl
def XT(s i:Nat):Bool:=decide (s/2^i%2=1)
variable{s:Nat}
theorem Jk(hx:s<4294967296):(bits .and .i64 ((s:Int)/2^(toNat (k:Int))) 1==1)=XT s k:=by
 have e:((s:Int)/2^(toNat (k:Int)))=((s/2^k:Nat):Int):=by rw[toNat_natCast];simp
 have:=Nat.div_le_self s (2^k);unfold XT;rw[e];generalize s/2^k=z at this;rw[zd om om,Bool.eq_iff_iff];simp only[beq_iff_eq,decide_eq_true_eq];omega
def TM(x:QN)(v:List Bool):Nat->Nat
 | 0=>0
 | j+1=>TM x v j+(if P9 v (P9 x.Z (j:Int))=true then 1 else 0)
def gM(x:QN)(n:Nat):Bool:=
 if x.U=0 then x.K==1 else if x.U=1 then (n:Int)==0 else if x.U=2 then (n:Int)==(x.Z.length:Int)else if x.U=3 then decide ((0:Int)<n)
 else if x.U=4 then decide (x.K<=n)else Int.tmod n 2==1
def kY(x:QN)(v:List Bool):Bool:=gM x (TM x v x.Z.length)
def cK(f:GFormula)(s:Nat):Nat->List Bool
 | 0=>(range f.Y.toNat).map (XT s)
 | i+1=>cK f s i++[kY (P9 f.N (i:Int)) (cK f s i)]
def FV(f:GFormula)(s:Nat):Bool:=P9 (cK f s f.N.length) f.A
theorem mh{f:GFormula}{s:Nat}:∀i,(cK f s i).length=f.Y.toNat+i
 | 0=>by simp[cK]
 | i+1=>by rw[cK,length_append,mh i];simp;omega
theorem mE[Inhabited α]{l m:List α}{i:Int}(h0:0<=i)(h:i<l.length):P9 (l++m) i=P9 l i:=by grind [P9]
theorem lR[Inhabited α]{l:List α}{x:α}:P9 (l++[x]) (l.length:Int)=x:=by grind [P9]
theorem iv{f:GFormula}{s m:Nat}{a:Int}(h0:0<=a)(h:a<f.Y.toNat+m):∀n,m<=n->P9 (cK f s n) a=P9 (cK f s m) a
 | 0,hn=>by obtain rfl:m=0:=om;rfl
 | n+1,hn=>by
  rcases lt_or_ge n m with h1|h1;·grind
  ·rw[cK,mE h0 (by rw[mh];omega),iv h0 h n h1]
theorem Ez{x:QN}{v:List Bool}:∀j,TM x v j<=j
 | 0=>Nat.le_refl _
 | j+1=>by have:=Ez (x:=x) (v:=v) j;rw[TM];split<;>omega
theorem dO[Inhabited α]{l:List α}{x:α}(h:i<l.length):P9 (Qt l (i:Int) x) (j:Int)=if j=i then x else P9 l (j:Int):=by grind [P9,Qt]
theorem ck{l:List α}{i:Int}{x:α}:(Qt l i x).length=l.length:=by simp[Qt]
theorem vz{Q:List Bool->Prop}(g:FG f)(hs:s<4294967296)(h:Q (cK f s f.N.length)):lG f s Q:=by
 have v0:=g.v0;have v24:=g.v24;have n128:=g.n128;refine⟨Qo,⟨om,om,om,om⟩,?_⟩;refine bu (n:=f.Y.toNat) (λi y=>y.1=(i:Int)/\y.2.length=f.Y.toNat/\∀j,j<i->P9 y.2 (j:Int)=XT s j) (λy=>y.1) 0 (λi y hy=>by rw[hy.1];omega) ⟨rfl,by simp[bA],λj hj=>absurd hj om⟩ ?_ ?_;·grind [Qb,Qe,ck,dO,Jk]
 ·rintro⟨x,v⟩ next ⟨rfl,hl,hI⟩
  dsimp only at hl hI;refine Qb (λhc=>absurd hc om) (λ_=>?_)
  have hv:v=cK f s 0:=by refine I1 (by rw[mh];omega) λj hj=>?_;rw[hI j om];show _=P9 ((range f.Y.toNat).map (XT s)) (j:Int);simp[P9,List.getD_eq_getElem?_getD,show j<f.Y.toNat by omega]
  rw[hv];refine gB (n:=f.N.length) (λi=>((i:Int),cK f s i)) (λy=>y.1) 0 (λi=>om) rfl ?_ ?_
  ·intro i next hi hn
   have N:=dq (g.node i hi);have hlen:=N.len;refine Qb (λhc=>⟨⟨om,om⟩,?_⟩) (λhc=>absurd (show(i:Int)<(f.N.length:Int)by omega) hc);refine gB (n:=(P9 f.N (i:Int)).Z.length) (λj=>((TM (P9 f.N (i:Int)) (cK f s i) j:Int),(j:Int))) (λy=>y.2) 0 (λj=>om) rfl ?_ ?_
   ·intro j Qd hj TL;have ha:=N.arg j hj;have UE:=Ez (x:=P9 f.N (i:Int)) (v:=cK f s i) j;refine Qb (λhc=>⟨⟨om,om⟩,⟨ha.1,by rw[mh];omega⟩,aB (λhb=>⟨Qo,Qo,?_⟩) (λhb=>⟨Qo,?_⟩)⟩) (λhc=>absurd (show(j:Int)<((P9 f.N (i:Int)).Z.length:Int)by omega) hc);·grind [TM]
    ·grind [TM]
   ·intro Qd;refine Qb (λhc=>absurd hc om) (λ_=>?_)
    refine⟨λy=>y=kY (P9 f.N (i:Int)) (cK f s i),?_,?_⟩
    ·have k5:=N.k5;have k0:=N.k0;unfold kY gM;refine bk (λh0=>by rw[if_pos h0]) (λh0=>bk (λh1=>by rw[if_neg h0,if_pos h1]) (λh1=>bk (λh2=>by rw[if_neg h0,if_neg h1,if_pos h2]) (λh2=>bk (λh3=>by rw[if_neg h0,if_neg h1,if_neg h2,if_pos h3]) (λh3=>bk (λh4=>by rw[if_neg h0,if_neg h1,if_neg h2,if_neg h3,if_pos h4]) (λh4=>bk (λh5=>by rw[if_neg h0,if_neg h1,if_neg h2,if_neg h3,if_neg h4]) (λh5=>?_))))))
     exact absurd (show(P9 f.N (i:Int)).U=0\/(P9 f.N (i:Int)).U=1\/(P9 f.N (i:Int)).U=2\/(P9 f.N (i:Int)).U=3\/(P9 f.N (i:Int)).U=4\/(P9 f.N (i:Int)).U=5 by omega) (by
      rintro(hh|hh|hh|hh|hh|hh);·exact h0 hh
      ·exact h1 hh
      ·exact h2 hh
      ·exact h3 hh
      ·exact h4 hh
      ·exact h5 hh)
    ·rintro _ rfl;refine⟨?_,Qo,hn⟩;rw[length_append,mh,length_singleton];omega
  ·grind [Qb]
theorem LI(h:n<=24):2^n<=16777216:=le_trans (pow_le_pow_right om h) (by decide)
def BX(f:GFormula)(s:Int):Int:=if qw f≠0 then qw f else if s<0\/(2^f.Y.toNat:Int)<=s then 3 else 0
theorem wL{s:Int}{Q:Option Int->Prop}(ht:Qe f.A)(h:Q (pU (BX f s))):mQ f s Q:=by
 unfold BX at h;refine eV ht ?_;rw[rA];refine Qb (λhc=>?_) (λhc=>?_)
 ·simp_all
 rw[if_neg hc]at h;have g:=kM.1 (Decidable.not_not.1 hc);have v0:=g.v0;have v24:=g.v24;refine⟨λy=>y=decide (s<0\/(2^f.Y.toNat:Int)<=s),?_,?_⟩
 ·refine Qb (λhc=>(decide_eq_true (Or.inl hc)).symm) (λhc=>⟨⟨⟨om,om⟩,?_⟩,?_⟩)
  ·have:=LI (n:=f.Y.toNat) om;have e:(2^f.Y.toNat:Int)=((2^f.Y.toNat:Nat):Int):=by simp
   rw[Int.one_mul,e];generalize 2^f.Y.toNat=z at this;unfold Qe;omega
  ·grind
 ·rintro _ rfl;refine Qb (λSw=>?_) (λSw=>?_)
  ·rw[if_pos Sw]at h;exact h
  ·rw[if_neg Sw]at h;exact h
theorem wM{s:Int}{Q:Bool->Option Int->Prop}(ht:Qe f.A)(h1:BX f s≠0->Q false (some (BX f s)))(h2:BX f s=0->Q (FV f s.toNat) none):mR f s Q:=by
 refine wL ht ?_;rw[rA];refine Qb (λhc=>?_) (λhc=>?_)
 ·grind [pU]
 ·have h3:=h2 (Decidable.not_not.1 hc);unfold BX at hc;by_cases hm:qw f≠0;·omega
  rw[if_neg hm]at hc;have g:=kM.1 (Decidable.not_not.1 hm);have v0:=g.v0;have v24:=g.v24;have hs:0<=s/\s<(2^f.Y.toNat:Int):=om;obtain⟨k,rfl⟩:=eq_ofNat_of_zero_le hs.1;have hp:=LI (n:=f.Y.toNat) om;have hk:k<2^f.Y.toNat:=by grind
  refine⟨_,vz g om rfl,⟨⟨g.Sd,by rw[mh];have:=g.top;omega⟩,h3⟩⟩
theorem nE(v0:0<=f.Y)(h:i<f.N.length):P9 (cK f s f.N.length) (f.Y+i)=kY (P9 f.N (i:Int)) (cK f s i):=by
 rw[iv (m:=i+1) om om _ om,cK];have e:f.Y+(i:Int)=((cK f s i).length:Int):=by rw[mh];omega
 rw[e,lR]
theorem mj{a:Int}(h0:0<=a)(h:a<f.Y)(n:Nat):P9 (cK f s n) a=XT s a.toNat:=by rw[iv (m:=0) h0 om n om];obtain⟨k,rfl⟩:=eq_ofNat_of_zero_le h0;show P9 ((range f.Y.toNat).map (XT s)) (k:Int)=_;simp[P9,List.getD_eq_getElem?_getD,show k<f.Y.toNat by omega]
theorem F5:(2:Nat)^62=4611686018427387904:=rfl
theorem dp{a:Nat}(h:a<2^62):(BitVec.ofInt 64 (a:Int)).toNat=a:=by grind
theorem DN{a:Nat}(h:a<2^62):IntKind.i64.wrap (a:Int)=(a:Int):=by grind [Go.Gg.RG,Go.Gg.Qe]
theorem mg{a b:Nat}(ha:a<2^62)(hb:b<2^62):bits .or .i64 (a:Int) (b:Int)=((a ||| b:Nat):Int):=by show IntKind.i64.wrap (((BitVec.ofInt 64 (a:Int)) ||| (BitVec.ofInt 64 (b:Int))).toNat:Int)=_;rw[BitVec.toNat_or,dp ha,dp hb];exact DN (Nat.or_lt_two_pow ha hb)
theorem Dr{a b:Nat}(ha:a<2^62)(hb:b<2^62):bits .and .i64 (a:Int) (b:Int)=((a &&& b:Nat):Int):=by show IntKind.i64.wrap (((BitVec.ofInt 64 (a:Int)) &&& (BitVec.ofInt 64 (b:Int))).toNat:Int)=_;rw[BitVec.toNat_and,dp ha,dp hb];exact DN (Nat.and_lt_two_pow _ hb)
theorem Ta:XT s i=s.testBit i:=by grind [Go.Gg.XT]
def gI(p:Nat->Bool):Nat->Nat
 | 0=>0
 | n+1=>if p n=true then gI p n+2^n else gI p n
theorem Ry{p:Nat->Bool}:∀n,gI p n<2^n
 | 0=>by simp[gI]
 | n+1=>by have:=Ry (p:=p) n;rw[gI,Nat.pow_succ];split<;>omega
theorem Ur{p:Nat->Bool}(n:Nat):gI p n ||| 2^n=gI p n+2^n:=by have:=Nat.two_pow_add_eq_or_of_lt (Ry (p:=p) n) 1;rw[Nat.mul_one]at this;rw[Nat.or_comm,<-this,Nat.add_comm]
theorem QS{p:Nat->Bool}:∀n i,(gI p n).testBit i=(decide (i<n)&&p i)
 | 0,i=>by simp[gI]
 | n+1,i=>by
  rw[gI];rcases Nat.lt_trichotomy i n with h|h|h
  ·have h1:(decide (i<n+1)&&p i)=(decide (i<n)&&p i):=by rw[decide_eq_true h,decide_eq_true om]
   rw[h1,<-QS n i];split;·grind [Go.Gg.Ur]
   ·rfl
  ·grind [Nat.testBit_lt_two_pow,Go.Gg.Ry,Go.Gg.Ur]
  ·rw[decide_eq_false om,Bool.false_and];refine Nat.testBit_lt_two_pow (lt_of_lt_of_le (m:=2^(n+1)) ?_ (pow_le_pow_right om om));have:=Ry (p:=p) n;rw[Nat.pow_succ];split<;>omega
theorem K_{p:Nat->Bool}(h:i<n):XT (gI p n) i=p i:=by grind [Go.Gg.Ta,Go.Gg.QS]
abbrev R7:=Nat->Bool
def cF(σ:R7)(v:Nat)(b:Bool):R7:=λi=>if i=v then b else σ i
variable{σ:R7}{v:Nat}
theorem rS:cF σ v b v=b:=by simp[cF]
theorem tL(h:i≠v):cF σ v b i=σ i:=by simp[cF,h]
theorem Bv:cF σ v (σ v)=σ:=by grind [rS,tL]
theorem rR{P:List α->Prop}(h0:P [])(h1:∀l x,P l->P (l++[x]))(l:List α):P l:=by
 have h:∀m:List α,P m.reverse:=by
  intro m;induction m with
  | nil=>exact h0
  | cons x m ih=>rw[List.reverse_cons];exact h1 _ _ ih
 have:=h l.reverse;rwa[List.reverse_reverse]at this
def Dk(N:List P')(σ:R7):List Bool:=N.foldl (λacc x=>acc++[bif σ x.T.toNat then acc.getD x.D.toNat false else acc.getD x.F.toNat false]) [false,true]
def den(N:List P')(σ:R7)(r:Nat):Bool:=(Dk N σ).getD r false
variable{N:List P'}{x:P'}
theorem tn:Dk (N++[x]) σ=Dk N σ++[bif σ x.T.toNat then den N σ x.D.toNat else den N σ x.F.toNat]:=by grind [Dk,den]
theorem AH(N:List P'):(Dk N σ).length=2+N.length:=by
 induction N using rR with
 | h0=>rfl
 | h1 N x ih=>rw[tn,length_append,ih,length_append];simp;omega
variable{r:Nat}
theorem I5(h:r<2+N.length):den (N++[x]) σ r=den N σ r:=by grind [den,tn,AH]
theorem gn(M:List P')(h:r<2+N.length):den (N++M) σ r=den N σ r:=by
 induction M using rR with
 | h0=>simp
 | h1 M x ih=>rw[<-List.append_assoc,I5 (by rw[length_append];omega),ih]
theorem I6:den (N++[x]) σ (2+N.length)=bif σ x.T.toNat then den N σ x.D.toNat else den N σ x.F.toNat:=by grind [den,tn,AH]
theorem yQ(hx:N[i]? = some x)(hl:x.F.toNat<2+i)(hh:x.D.toNat<2+i):den N σ (2+i)=bif σ x.T.toNat then den N σ x.D.toNat else den N σ x.F.toNat:=by
 obtain⟨hi,rfl⟩:=List.getElem?_eq_some_iff.1 hx;have hlen:(N.take i).length=i:=by simp;omega
 have e:N=(N.take i++[N[i]])++N.drop (i+1):=by simp
 have hd:∀r,r<2+i->den N σ r=den (N.take i) σ r:=λr hr=>by grind [gn]
 rw[hd _ hl,hd _ hh];conv=>lhs;rw[e]
 rw[gn _ (by rw[length_append,hlen];simp)];have:=I6 (N:=N.take i) (x:=N[i]) (σ:=σ);rw[hlen]at this;exact this
theorem jq:den N σ 0=false:=by have:=gn (σ:=σ) (r:=0) (N:=[]) N Qy;exact this.trans rfl
theorem kG:den N σ 1=true:=by have:=gn (σ:=σ) (r:=1) (N:=[]) N Qy;exact this.trans rfl
def lvl(n:Nat)(lev:Nat->Nat)(N:List P')(r:Nat):Nat:=if r<2 then n else match N[r-2]? with|some x=>lev x.T.toNat|none=>n
variable{lev:Nat->Nat}
theorem ga(h:r<2):lvl n lev N r=n:=by simp[lvl,h]
theorem kq(h:N[i]? = some x):lvl n lev N (2+i)=lev x.T.toNat:=by grind [lvl]
theorem kr(M:List P')(h:r<2+N.length):lvl n lev (N++M) r=lvl n lev N r:=by grind [lvl]
structure LV(n:Nat)(lev:Nat->Nat):Prop where
 inj:∀i j,i<n->j<n->lev i=lev j->i=j
 lt:∀i,i<n->lev i<n
structure Nd(n:Nat)(lev:Nat->Nat)(N:List P')(i:Nat)(x:P'):Prop where
 var:0<=x.T/\x.T<n
 lo:0<=x.F/\x.F<2+i
 hi:0<=x.D/\x.D<2+i
 ne:x.F≠x.D
 llo:lev x.T.toNat<lvl n lev N x.F.toNat
 lhi:lev x.T.toNat<lvl n lev N x.D.toNat
structure WT(n:Nat)(lev:Nat->Nat)(N:List P'):Prop where
 nd:∀(i:Nat) (x:P'),N[i]? = some x->Nd n lev N i x
 Yn:∀(i j:Nat) (x:P'),N[i]? = some x->N[j]? = some x->i=j
section
variable{n:Nat}{lev:Nat->Nat}{N:List P'}
theorem WT.nil:WT n lev []:=⟨λi x h=>by simp at h,λi j x h=>by simp at h⟩
theorem fT(h:r<2+N.length):r=0\/r=1\/∃i x,r=2+i/\N[i]? = some x:=by
 by_cases h0:r=0;·exact .inl h0
 by_cases h1:r=1;·exact .inr (.inl h1)
 ·exact .inr (.inr ⟨r-2,N[r-2]'om,om,List.getElem?_eq_getElem om⟩)
theorem WT.SF(h:WT n lev N)(hx:N[i]? = some x)(σ:R7):den N σ (2+i)=bif σ x.T.toNat then den N σ x.D.toNat else den N σ x.F.toNat:=by obtain⟨_,b,c,_,_,_⟩:=h.nd i x hx;exact yQ hx om om
theorem WT.Sa(h:WT n lev N):∀ {r:Nat},r<2+N.length->lev v<lvl n lev N r->∀σ,den N (cF σ v b) r=den N σ r:=by
 intro r;induction r using strongRecOn with
 | _ r ih=>
  intro hr hv σ;rcases fT hr with rfl|rfl|⟨i,x,rfl,hx⟩;·rw[jq,jq]
  ·rw[kG,kG]
  ·obtain⟨a,b',c,_,e,f⟩:=h.nd i x hx;have hi:=(List.getElem?_eq_some_iff.1 hx).1;rw[kq hx]at hv;have QI:x.T.toNat≠v:=λhc=>by rw[hc]at hv;omega
   rw[h.SF hx,h.SF hx,tL QI,ih x.D.toNat om om om,ih x.F.toNat om om om]
theorem WT.Rt(h:WT n lev N)(hx:N[i]? = some x)(σ:R7)(b:Bool):den N (cF σ x.T.toNat b) (2+i)=den N σ (bif b then x.D.toNat else x.F.toNat):=by
 obtain⟨_,b',c,_,e,f⟩:=h.nd i x hx;have hi:=(List.getElem?_eq_some_iff.1 hx).1;rw[h.SF hx,rS];cases b;·exact h.Sa om e σ
 ·exact h.Sa om f σ
theorem WT.canon(hL:LV n lev)(h:WT n lev N)(hr:r<2+N.length)(hs:s<2+N.length)(he:∀σ,den N σ r=den N σ s):r=s:=by
 have key:∀b r s,r<b->s<b->r<2+N.length->s<2+N.length->(∀σ,den N σ r=den N σ s)->r=s:=by
  intro b;induction b with
  | zero=>intro r s h1;omega
  | succ b ih=>
   have step:∀i x s,N[i]? = some x->2+i<b+1->s<2+N.length->lev x.T.toNat<lvl n lev N s->(∀σ,den N σ (2+i)=den N σ s)->False:=by
    intro i x s hx hib hs hl he;obtain⟨a,b',c,d,e,f⟩:=h.nd i x hx;have hi:=(List.getElem?_eq_some_iff.1 hx).1;have:x.F.toNat=x.D.toNat:=ih _ _ om om om om λσ=>by have h1:=h.Rt hx σ false;have h2:=h.Rt hx σ true;rw[he,h.Sa hs hl]at h1 h2;exact h1.symm.trans h2
    omega
   intro r s h1 h2 hr hs he;rcases fT hr with rfl|rfl|⟨i,x,rfl,hx⟩
   ·rcases fT hs with rfl|rfl|⟨j,y,rfl,hy⟩;·rfl
    ·simp_all [jq,kG]
    ·exact(step j y 0 hy h2 hr (by rw[ga om];exact hL.lt _ (by have:=(h.nd j y hy).var;omega)) (λσ=>(he σ).symm)).elim
   ·rcases fT hs with rfl|rfl|⟨j,y,rfl,hy⟩;·simp_all [jq,kG]
    ·rfl
    ·exact(step j y 1 hy h2 hr (by rw[ga om];exact hL.lt _ (by have:=(h.nd j y hy).var;omega)) (λσ=>(he σ).symm)).elim
   ·by_cases hl:lev x.T.toNat<lvl n lev N s;·grind
    ·rcases fT hs with rfl|rfl|⟨j,y,rfl,hy⟩;·exact(hl (by rw[ga om];exact hL.lt _ (by have:=(h.nd i x hx).var;omega))).elim
     ·exact(hl (by rw[ga om];exact hL.lt _ (by have:=(h.nd i x hx).var;omega))).elim
     ·by_cases SS:lev y.T.toNat<lvl n lev N (2+i);·grind
      ·rw[kq hx]at SS;rw[kq hy]at hl;obtain⟨a,b',c,d,e,f⟩:=h.nd i x hx;obtain⟨a2,b2,c2,d2,e2,f2⟩:=h.nd j y hy;have hi:=(List.getElem?_eq_some_iff.1 hx).1;have hj:=(List.getElem?_eq_some_iff.1 hy).1;have hv:x.T.toNat=y.T.toNat:=hL.inj _ _ om om om;have q1:x.F.toNat=y.F.toNat:=ih _ _ om om om om λσ=>by have p1:=h.Rt hx σ false;have p2:=h.Rt hy σ false;rw[hv,he]at p1;exact p1.symm.trans p2
       have q2:x.D.toNat=y.D.toNat:=ih _ _ om om om om λσ=>by have p1:=h.Rt hx σ true;have p2:=h.Rt hy σ true;rw[hv,he]at p1;exact p1.symm.trans p2
       have hxy:x=y:=by
        cases x;cases y;simp only[P'.mk.injEq];simp only at *
        omega
       subst hxy;rw[h.Yn i j x hx hy]
 exact key (max r s+1) r s om om hr hs he
theorem WT.snoc(h:WT n lev N)(hv:0<=x.T/\x.T<n)(Sr:0<=x.F/\x.F<2+N.length)(Sx:0<=x.D/\x.D<2+N.length)(QI:x.F≠x.D)(h1:lev x.T.toNat<lvl n lev N x.F.toNat)(h2:lev x.T.toNat<lvl n lev N x.D.toNat)(ag4:x∉N):WT n lev (N++[x]):=by
 refine⟨λi y hy=>?_,λi j y hi hj=>?_⟩
 ·rcases lt_or_ge i N.length with hi|hi;·rw[List.getElem?_append_left hi]at hy;obtain⟨a,b,c,d,e,f⟩:=h.nd i y hy;exact⟨a,b,c,d,by rw[kr _ om];exact e,by rw[kr _ om];exact f⟩
  ·have SV:i<(N++[x]).length:=(List.getElem?_eq_some_iff.1 hy).1;simp only[length_append,length_singleton]at SV;obtain rfl:i=N.length:=om;rw[List.getElem?_append_right (Nat.le_refl _)]at hy;simp at hy;subst hy;exact⟨hv,Sr,Sx,QI,by rw[kr _ om];exact h1,by rw[kr _ om];exact h2⟩
 ·have SV:i<(N++[x]).length:=(List.getElem?_eq_some_iff.1 hi).1;have UM:j<(N++[x]).length:=(List.getElem?_eq_some_iff.1 hj).1;simp only[length_append,length_singleton]at SV UM;by_cases Q9:i<N.length
  ·rw[List.getElem?_append_left Q9]at hi;by_cases SU:j<N.length;·rw[List.getElem?_append_left SU]at hj;exact h.Yn i j y hi hj
   ·grind
  ·grind
end
instance:DecidableEq P':=λa b=>decidable_of_iff (a.T=b.T/\a.F=b.F/\a.D=b.D) (by cases a;cases b;simp)
def Y9(v lo hi:Nat)(N:List P'):List P'×Nat:=
 if lo=hi then (N,lo)else if (⟨v,lo,hi⟩:P')∈N then (N,2+N.idxOf ⟨v,lo,hi⟩)else (N++[⟨v,lo,hi⟩],2+N.length)
def cP:List Nat->(R7->Bool)->List P'->List P'×Nat
 | [],f,N=>(N,if f (λ_=>false)=true then 1 else 0)
 | v::vs,f,N=>Y9 v (cP vs (λσ=>f (cF σ v false)) N).2 (cP vs (λσ=>f (cF σ v true)) (cP vs (λσ=>f (cF σ v false)) N).1).2 (cP vs (λσ=>f (cF σ v true)) (cP vs (λσ=>f (cF σ v false)) N).1).1
def Ts(f:R7->Bool)(vs:List Nat):Prop:=∀σ σ':R7,(∀v∈vs,σ v=σ' v)->f σ=f σ'
structure SH(n:Nat)(lev:Nat->Nat)(ord:List Nat):Prop where
 lv:LV n lev
 len:ord.length=n
 at_:∀i v,ord[i]? = some v->v<n/\lev v=i
 of:∀v,v<n->ord[lev v]? = some v
theorem SH.drop{n:Nat}{lev:Nat->Nat}{ord:List Nat}(h:SH n lev ord){v:Nat}(hv:v<n):ord.drop (lev v)=v::ord.drop (lev v+1):=by have h1:=h.of v hv;obtain⟨hl,he⟩:=List.getElem?_eq_some_iff.1 h1;rw[List.drop_eq_getElem_cons hl,he]
theorem SH.mem{ord:List Nat}(h:SH n lev ord):v∈ord.drop l↔v<n/\l<=lev v:=by
 constructor;·intro hm;obtain⟨i,hi⟩:=List.mem_iff_getElem?.1 hm;rw[List.getElem?_drop]at hi;obtain⟨a,b⟩:=h.at_ _ _ hi;exact⟨a,om⟩
 ·rintro⟨hv,hl⟩;refine List.mem_iff_getElem?.2 ⟨lev v-l,?_⟩;rw[List.getElem?_drop,show l+(lev v-l)=lev v by omega];exact h.of v hv
variable{vs:List Nat}
theorem Ts.sub{f:R7->Bool}{ws:List Nat}(h:Ts f vs)(hs:∀v∈vs,v∈ws):Ts f ws:=λσ σ' hh=>h σ σ' λv hv=>hh v (hs v hv)
theorem Ts.set{f:R7->Bool}(h:Ts f (v::vs)):Ts (λσ=>f (cF σ v b)) vs:=λσ σ' hh=>h _ _ λw hw=>by grind [rS,tL]
theorem Ts.not{f:R7->Bool}(h:Ts f vs)(hv:v∉vs)(σ:R7)(b:Bool):f (cF σ v b)=f σ:=h _ _ λw hw=>tL (λhe=>hv (he▸hw))
section
variable{n:Nat}{lev:Nat->Nat}{ord:List Nat}{N:List P'}
theorem WT.dep(hO:SH n lev ord)(h:WT n lev N)(hr:r<2+N.length):Ts (λσ=>den N σ r) (ord.drop (lvl n lev N r)):=by
 induction r using strongRecOn with
 | _ r ih=>
  rcases fT hr with rfl|rfl|⟨i,x,rfl,hx⟩;·exact λσ σ' _=>by simp only[jq]
  ·exact λσ σ' _=>by simp only[kG]
  ·obtain⟨a,b,c,d,e,f⟩:=h.nd i x hx;have hi:=(List.getElem?_eq_some_iff.1 hx).1;intro σ σ' hh;rw[kq hx]at hh;simp only[h.SF hx];rw[hh x.T.toNat (hO.mem.2 ⟨om,Nat.le_refl _⟩)];have q1:=ih x.F.toNat om om σ σ' (λv hv=>hh v (hO.mem.2 ⟨(hO.mem.1 hv).1,by have:=(hO.mem.1 hv).2;omega⟩));have q2:=ih x.D.toNat om om σ σ' (λv hv=>hh v (hO.mem.2 ⟨(hO.mem.1 hv).1,by have:=(hO.mem.1 hv).2;omega⟩));simp only at q1 q2;rw[q1,q2]
theorem WT.top(hO:SH n lev ord)(h:WT n lev N)(hx:N[i]? = some x)(hd:∀σ b,den N (cF σ x.T.toNat b) (2+i)=den N σ (2+i)):False:=by
 obtain⟨a,b,c,d,e,f⟩:=h.nd i x hx;have hi:=(List.getElem?_eq_some_iff.1 hx).1;have:=h.canon hO.lv (r:=x.F.toNat) (s:=x.D.toNat) om om λσ=>by have h1:=h.Rt hx σ false;have h2:=h.Rt hx σ true;rw[hd]at h1 h2;exact h1.symm.trans h2
 omega
theorem WT.Sn(hO:SH n lev ord)(h:WT n lev N)(hr:r<2+N.length)(hl:l<=n)(hd:Ts (λσ=>den N σ r) (ord.drop l)):l<=lvl n lev N r:=by
 rcases fT hr with rfl|rfl|⟨i,x,rfl,hx⟩;·grind [ga]
 ·grind [ga]
 ·rw[kq hx];rcases lt_or_ge (lev x.T.toNat) l with QH|TV;·exfalso;refine h.top hO hx λσ b=>hd.not (λhm=>?_) σ b;have:=(hO.mem.1 hm).2;omega
  ·exact TV
theorem mF(hO:SH n lev ord)(h:WT n lev N):∀(k l:Nat),l+k=n->∀ {f:R7->Bool} {r:Nat},Ts f (ord.drop l)->r<2+N.length->(∀σ,den N σ r=f σ)->cP (ord.drop l) f N=(N,r)
 | 0,l,hk,f,r,hd,hr,hf=>by
  have e:ord.drop l=[]:=List.drop_eq_nil_of_le (by rw[hO.len];omega);rw[e]at hd ⊢;have hc:∀σ,den N σ r=f (λ_=>false):=λσ=>(hf σ).trans (hd _ _ (λv hv=>by simp at hv));rw[cP];cases hb:f (λ_=>false)with
  | true=>
   rw[if_pos rfl,h.canon hO.lv (r:=r) (s:=1) hr om (λσ=>by rw[hc,hb,kG])]
  | false=>
   rw[if_neg Qy,h.canon hO.lv (r:=r) (s:=0) hr om (λσ=>by rw[hc,hb,jq])]
 | k+1,l,hk,f,r,hd,hr,hf=>by
  have hl:l<ord.length:=by rw[hO.len];omega
  have hdr:ord.drop l=ord[l]::ord.drop (l+1):=List.drop_eq_getElem_cons hl;generalize hv:ord[l]=v at hdr;have Tg:=hO.at_ l v (by rw[List.getElem?_eq_getElem hl,hv]);rw[hdr]at hd ⊢;have hdN:Ts (λσ=>den N σ r) (ord.drop l):=by simp_all
  have TV:=h.Sn hO hr om hdN;rw[cP];by_cases QH:l<lvl n lev N r
  ·have hfs:∀b σ,den N σ r=f (cF σ v b):=λb σ=>by rw[<-hf,h.Sa hr (by rw[Tg.2];exact QH)]
   rw[mF hO h k (l+1) om (r:=r) hd.set hr (hfs false),mF hO h k (l+1) om (r:=r) hd.set hr (hfs true)];simp[Y9]
  ·have hle:lvl n lev N r=l:=om;rcases fT hr with rfl|rfl|⟨i,x,rfl,hx⟩;·grind [ga]
   ·grind [ga]
   ·obtain⟨a,b,c,d,e,f'⟩:=h.nd i x hx;have hi:=(List.getElem?_eq_some_iff.1 hx).1;rw[kq hx]at hle;have hxv:x.T.toNat=v:=hO.lv.inj _ _ om Tg.1 (by rw[hle,Tg.2]);have h1:∀σ,den N σ x.F.toNat=f (cF σ v false):=λσ=>by rw[<-hf,<-hxv];exact(h.Rt hx σ false).symm
    have h2:∀σ,den N σ x.D.toNat=f (cF σ v true):=λσ=>by rw[<-hf,<-hxv];exact(h.Rt hx σ true).symm
    rw[mF hO h k (l+1) om (r:=x.F.toNat) hd.set om h1,mF hO h k (l+1) om (r:=x.D.toNat) hd.set om h2];have hxe:(⟨(v:Int),((x.F.toNat:Nat):Int),((x.D.toNat:Nat):Int)⟩:P')=x:=by
     cases x;simp only[P'.mk.injEq];simp only at *
     omega
    have hm:x∈N:=List.mem_of_getElem? hx;have X_:N.idxOf x=i:=by have Vm:N.idxOf x<N.length:=List.idxOf_lt_length_of_mem hm;exact h.Yn _ _ x (by rw[List.getElem?_eq_getElem Vm,List.getElem_idxOf]) hx
    simp only[Y9];rw[if_neg om,hxe,if_pos hm,X_]
theorem jT(hO:SH n lev ord):∀(k l:Nat),l+k=n->∀ {f:R7->Bool} {N:List P'},WT n lev N->Ts f (ord.drop l)->WT n lev (cP (ord.drop l) f N).1/\(∃M,(cP (ord.drop l) f N).1=N++M)/\(cP (ord.drop l) f N).2<2+(cP (ord.drop l) f N).1.length/\∀σ,den (cP (ord.drop l) f N).1 σ (cP (ord.drop l) f N).2=f σ
 | 0,l,hk,f,N,h,hd=>by
  have e:ord.drop l=[]:=List.drop_eq_nil_of_le (by rw[hO.len];omega);rw[e]at hd ⊢;rw[cP];refine⟨h,⟨[],by simp⟩,?_,λσ=>?_⟩
  ·grind
  ·simp only;rw[hd σ (λ_=>false) (λv hv=>by simp at hv)];split;·grind [kG]
   ·grind [jq]
 | k+1,l,hk,f,N,h,hd=>by
  have hl:l<ord.length:=by rw[hO.len];omega
  have hdr:ord.drop l=ord[l]::ord.drop (l+1):=List.drop_eq_getElem_cons hl;generalize hv:ord[l]=v at hdr;have Tg:=hO.at_ l v (by rw[List.getElem?_eq_getElem hl,hv]);rw[hdr]at hd ⊢;obtain⟨a1,⟨M1,a2⟩,a3,a4⟩:=jT hO k (l+1) om (f:=λσ=>f (cF σ v false)) h hd.set;generalize hA:cP (ord.drop (l+1)) (λσ=>f (cF σ v false)) N=A at a1 a2 a3 a4;obtain⟨b1,⟨M2,b2⟩,b3,b4⟩:=jT hO k (l+1) om (f:=λσ=>f (cF σ v true)) a1 hd.set;generalize hB:cP (ord.drop (l+1)) (λσ=>f (cF σ v true)) A.1=B at b1 b2 b3 b4;rw[cP,hA,hB];have a3':A.2<2+B.1.length:=by grind
  have a4':∀σ,den B.1 σ A.2=f (cF σ v false):=λσ=>by rw[b2,gn _ a3,a4]
  have hla:l+1<=lvl n lev B.1 A.2:=b1.Sn hO a3' om (λσ σ' hh=>by simp only[a4'];exact hd.set σ σ' hh);have hlb:l+1<=lvl n lev B.1 B.2:=b1.Sn hO b3 om (λσ σ' hh=>by simp only[b4];exact hd.set σ σ' hh);have ahA:∀σ,f σ=bif σ v then f (cF σ v true)else f (cF σ v false):=λσ=>by grind [Bv]
  unfold Y9;split;·grind
  ·rename_i QI;have hval:∀(N':List P') (i:Nat) σ,N'[i]? = some (⟨(v:Int),(A.2:Int),(B.2:Int)⟩:P')->(∃M,N'=B.1++M)->A.2<2+i->B.2<2+i->den N' σ (2+i)=f σ:=by rintro N' i σ hi ⟨M,rfl⟩ ha hb;rw[yQ hi (by simpa using ha) (by simpa using hb)];simp only[toNat_natCast];rw[gn _ a3',gn _ b3,a4',b4];exact(ahA σ).symm
   split
   ·rename_i hm;have QH:B.1.idxOf (⟨(v:Int),(A.2:Int),(B.2:Int)⟩:P')<B.1.length:=List.idxOf_lt_length_of_mem hm;have TU:B.1[B.1.idxOf (⟨(v:Int),(A.2:Int),(B.2:Int)⟩:P')]? = some (⟨(v:Int),(A.2:Int),(B.2:Int)⟩:P'):=by grind
    obtain⟨_,c1,c2,_⟩:=b1.nd _ _ TU;simp only at c1 c2;exact⟨b1,⟨M1++M2,by rw[b2,a2,List.append_assoc]⟩,by simp only;omega,λσ=>hval B.1 _ σ TU ⟨[],by simp⟩ om om⟩
   ·rename_i hm
    refine⟨b1.snoc ⟨by simp,by simp only;omega⟩ ⟨by simp,by simp only;omega⟩ ⟨by simp,by simp only;omega⟩ (by simp only;omega) (by simp only[toNat_natCast];rw[Tg.2];omega) (by simp only[toNat_natCast];rw[Tg.2];omega) hm,
     ⟨M1++M2++[⟨(v:Int),(A.2:Int),(B.2:Int)⟩],by rw[b2,a2];simp⟩,by simp,λσ=>hval _ _ σ Qy ⟨_,rfl⟩ a3' b3⟩
theorem GZ(hO:SH n lev ord)(h:WT n lev N){f:R7->Bool}(hl:l<n)(hd:Ts f (ord.drop (l+1))):cP (ord.drop l) f N=cP (ord.drop (l+1)) f N:=by
 have UY:l<ord.length:=by rw[hO.len];omega
 have hdr:ord.drop l=ord[l]::ord.drop (l+1):=List.drop_eq_getElem_cons UY;generalize hv:ord[l]=v at hdr;have Tg:=hO.at_ l v (by rw[List.getElem?_eq_getElem UY,hv]);have hf:∀b,(λσ=>f (cF σ v b))=f:=λb=>by funext σ;exact hd.not (λhm=>by have:=(hO.mem.1 hm).2;omega) σ b
 obtain⟨a1,_,a3,a4⟩:=jT hO (n-(l+1)) (l+1) om h hd;rw[hdr,cP,hf,hf,mF hO a1 (n-(l+1)) (l+1) om hd a3 a4];simp[Y9]
theorem tz(hO:SH n lev ord)(h:WT n lev N){f:R7->Bool}:∀(k l:Nat),l+k<=n->Ts f (ord.drop (l+k))->cP (ord.drop l) f N=cP (ord.drop (l+k)) f N
 | 0,l,_,_=>rfl
 | k+1,l,hk,hd=>by rw[GZ hO h om (hd.sub λv hv=>hO.mem.2 ⟨(hO.mem.1 hv).1,by have:=(hO.mem.1 hv).2;omega⟩),tz hO h k (l+1) om (by rw[show l+1+k=l+(k+1)by omega];exact hd),show l+1+k=l+(k+1)by omega]
theorem G_(hO:SH n lev ord)(h:WT n lev N){f:R7->Bool}(hv:v<n)(hd:Ts f (ord.drop (lev v))) :cP ord f N=Y9 v (cP ord (λσ=>f (cF σ v false)) N).2 (cP ord (λσ=>f (cF σ v true)) (cP ord (λσ=>f (cF σ v false)) N).1).2 (cP ord (λσ=>f (cF σ v true)) (cP ord (λσ=>f (cF σ v false)) N).1).1:=by
 have QH:=hO.lv.lt v hv;have Yd:∀b,Ts (λσ=>f (cF σ v b)) (ord.drop (lev v+1)):=λb=>by rw[hO.drop hv]at hd;exact hd.set
 have e:∀(g:R7->Bool) (N:List P'),WT n lev N->Ts g (ord.drop (lev v+1))->cP ord g N=cP (ord.drop (lev v+1)) g N:=λg N hN hg=>by have:=tz hO hN (f:=g) (lev v+1) 0 om (by simpa using hg);simpa using this
 have h0:cP ord f N=cP (ord.drop (lev v)) f N:=by have:=tz hO h (f:=f) (lev v) 0 om (by simpa using hd);simpa using this
 obtain⟨a1,_⟩:=jT hO (n-(lev v+1)) (lev v+1) om h (Yd false);rw[h0,hO.drop hv,cP,e _ N h (Yd false),e _ _ a1 (Yd true)]
theorem rL(hO:SH n lev ord)(h:WT n lev N){f:R7->Bool}(hd:Ts f ord):WT n lev (cP ord f N).1/\(∃M,(cP ord f N).1=N++M)/\(cP ord f N).2<2+(cP ord f N).1.length/\∀σ,den (cP ord f N).1 σ (cP ord f N).2=f σ:=by have:=jT hO n 0 om (f:=f) h (by simpa using hd);simpa using this
theorem Jq(hO:SH n lev ord)(h:WT n lev N){f:R7->Bool}(hd:Ts f ord)(hr:r<2+N.length)(hf:∀σ,den N σ r=f σ):cP ord f N=(N,r):=by have:=mF hO h n 0 om (f:=f) (r:=r) (by simpa using hd) hr hf;simpa using this
end
def zy(N:List P'):Prop:=∀(i:Nat) (x:P'),N[i]? = some x->(0<=x.F/\x.F<2+i)/\0<=x.D/\x.D<2+i
def zU(N:List P'):Nat->Nat->List Int->List Int
 | 0,_,b=>b
 | fu+1,r,b=>if r<2\/(r:Int)∈b then b else match N[r-2]? with
  | none=>b
  | some x=>zU N fu x.D.toNat (zU N fu x.F.toNat b)++[(r:Int)]
def QY(N:List P')(r:Nat)(b:List Int):List Int:=zU N (r+1) r b
section
variable{N:List P'}
theorem Av(hK:zy N):∀(r fu fu':Nat) (b:List Int),r<fu->r<fu'->zU N fu r b=zU N fu' r b:=by
 intro r;induction r using strongRecOn with
 | _ r ih=>
  intro fu fu' b h h';obtain⟨g,rfl⟩:∃g,fu=g+1:=⟨fu-1,om⟩;obtain⟨g',rfl⟩:∃g,fu'=g+1:=⟨fu'-1,om⟩;rw[zU,zU];by_cases hc:r<2\/(r:Int)∈b;·simp_all
  ·rw[if_neg hc,if_neg hc];cases hx:N[r-2]? with
   | none=>rfl
   | some x=>
    have hk:=hK _ x hx;simp only;rw[ih x.F.toNat om g g' b om om,ih x.D.toNat om g g' _ om om]
theorem iC{b:List Int}(h:r<2\/(r:Int)∈b):QY N r b=b:=by rw[QY,zU,if_pos h]
theorem lE(hK:zy N){b:List Int}(hx:N[i]? = some x)(h:((2+i:Nat):Int)∉b):QY N (2+i) b=QY N x.D.toNat (QY N x.F.toNat b)++[((2+i:Nat):Int)]:=by
 have hk:=hK _ x hx;conv=>lhs;unfold QY
 rw[zU,if_neg (by intro hc;rcases hc with hc|hc;omega;exact h hc),show 2+i-2=i by omega,hx];simp only;rw[Av hK x.F.toNat (2+i) (x.F.toNat+1) b om om,Av hK x.D.toNat (2+i) (x.D.toNat+1) _ om om];rfl
theorem oa(hK:zy N):∀(r:Nat) (b:List Int),∃c,QY N r b=b++c/\∀q∈c,2<=q/\q<=r:=by
 intro r;induction r using strongRecOn with
 | _ r ih=>
  intro b;by_cases hc:r<2\/(r:Int)∈b;·simp_all [iC]
  ·obtain⟨i,rfl⟩:∃i,r=2+i:=⟨r-2,om⟩;cases hx:N[i]? with
   | none=>simp_all [QY,zU]
   | some x=>
    have hk:=hK _ x hx;obtain⟨c1,h1,k1⟩:=ih x.F.toNat om b;obtain⟨c2,h2,k2⟩:=ih x.D.toNat om (b++c1);refine⟨c1++c2++[((2+i:Nat):Int)],?_,λq hq=>?_⟩;·grind [lE]
    ·grind
def upto(k:Nat):List Int:=(range k).map λi=>((2+i:Nat):Int)
theorem pQ{q:Int}:q∈upto k↔2<=q/\q<2+k:=by
 simp only[upto,List.mem_map,List.mem_range];constructor;·omega
 ·rintro⟨h1,h2⟩;exact⟨(q-2).toNat,om,om⟩
theorem pt:(upto k).length=k:=by simp[upto]
theorem Af:upto (k+1)=upto k++[((2+k:Nat):Int)]:=by simp[upto,List.range_succ]
variable{n:Nat}{lev:Nat->Nat}{ord:List Nat}
theorem WT.take(h:WT n lev N)(k:Nat):WT n lev (N.take k):=by
 have sub:∀i x,(N.take k)[i]? = some x->N[i]? = some x/\i<k/\i<N.length:=λi x hx=>by grind
 have Zf:∀r,r<2+(N.take k).length->lvl n lev (N.take k) r=lvl n lev N r:=λr hr=>by grind [List.take_append_drop,kr]
 refine⟨λi x hx=>?_,λi j x hi hj=>h.Yn i j x (sub i x hi).1 (sub j x hj).1⟩;obtain⟨h1,h2,h3⟩:=sub i x hx;obtain⟨a,b,c,d,e,f⟩:=h.nd i x h1;have hl:i<(N.take k).length:=by simp;omega
 exact⟨a,b,c,d,by rw[Zf _ om];exact e,by rw[Zf _ om];exact f⟩
end
variable{V:Type}
theorem jp{m:Qa V}{k q:List Int}{v:V}:bB (QL m k v) q=if q=k then some v else bB m q:=rfl
theorem bH{m:Qa V}{k q:Int}{v:V}:bB (QL m [k] v) [q]=if q=k then some v else bB m [q]:=by grind [jp]
theorem h_{q:List Int}:bB (de:Qa V) q=none:=rfl
section
variable{n:Nat}{lev:Nat->Nat}{ord:List Nat}
structure EX(n:Nat)(lev:Nat->Nat)(T:List P')(refs:Qa Int)(N:List P'):Prop where
 wt:WT n lev N
 c0:bB refs [0]=some 0
 c1:bB refs [1]=some 1
 sound:∀r x,bB refs [r]=some x->0<=r/\r.toNat<2+T.length/\0<=x/\x.toNat<2+N.length/\∀σ,den N σ x.toNat=den T σ r.toNat
 acS:∀i,i<N.length->∃r,bB refs [r]=some ((2+i:Nat):Int)
variable{T N:List P'}{refs:Qa Int}
theorem WT.Uq(hO:SH n lev ord)(h:WT n lev N)(hr:r<2+N.length):Ts (λσ=>den N σ r) ord:=(h.dep hO hr).sub λ_ hv=>List.mem_of_mem_drop hv
theorem EX.start:EX n lev T (QL (QL de [0] 0) [1] 1) []:=by
 refine⟨WT.nil,?_,?_,λr x h=>?_,λi hi=>by simp at hi⟩;·grind [bH]
 ·grind [bH]
 ·rw[bH]at h;by_cases h1:r=1;·grind [kG]
  ·rw[if_neg h1,bH]at h;by_cases h0:r=0;·grind [jq]
   ·grind [h_]
theorem EX.old(hO:SH n lev ord)(hT:WT n lev T)(h:EX n lev T refs N){r x:Int}(hr:bB refs [r]=some x):cP ord (λσ=>den T σ r.toNat) N=(N,x.toNat):=by obtain⟨_,h2,_,h4,h5⟩:=h.sound r x hr;exact Jq hO h.wt (hT.Uq hO h2) h4 h5
theorem EX.node(hO:SH n lev ord)(hT:WT n lev T){N1 N2:List P'}{XG:Qa Int}{y1 y2:Int}(hN:WT n lev N)(h:EX n lev T XG N2)(hx:T[i]? = some x)(hy1:0<=y1)(hy2:0<=y2)(e1:cP ord (λσ=>den T σ x.F.toNat) N=(N1,y1.toNat))(e2:cP ord (λσ=>den T σ x.D.toNat) N1=(N2,y2.toNat))(Tj:bB XG [((2+i:Nat):Int)]=none) :cP ord (λσ=>den T σ (2+i)) N=(N2++[⟨x.T,y1,y2⟩],2+N2.length)/\EX n lev T (QL XG [((2+i:Nat):Int)] ((2+N2.length:Nat):Int)) (N2++[⟨x.T,y1,y2⟩]):=by
 obtain⟨a,b,c,d,e,f⟩:=hT.nd i x hx;have hi:=(List.getElem?_eq_some_iff.1 hx).1;have hv:x.T.toNat<n:=om;have hd:=hT.dep hO (r:=2+i) om;rw[kq hx]at hd;have f1:(λσ=>den T (cF σ x.T.toNat false) (2+i))=λσ=>den T σ x.F.toNat:=by funext σ;exact hT.Rt hx σ false
 have f2:(λσ=>den T (cF σ x.T.toNat true) (2+i))=λσ=>den T σ x.D.toNat:=by funext σ;exact hT.Rt hx σ true
 have s1:=rL hO hN (hT.Uq hO (r:=x.F.toNat) om);rw[e1]at s1;have s2:=rL hO s1.1 (hT.Uq hO (r:=x.D.toNat) om);rw[e2]at s2;obtain⟨w1,_,l1,d1⟩:=s1;obtain⟨w2,⟨M,rfl⟩,l2,d2⟩:=s2;simp only at w1 l1 d1 w2 l2 d2;have l1':y1.toNat<2+(N1++M).length:=by simp;omega
 have d1':∀σ,den (N1++M) σ y1.toNat=den T σ x.F.toNat:=λσ=>by rw[gn _ l1,d1]
 have QI:y1.toNat≠y2.toNat:=λhc=>by
  have:=hT.canon hO.lv (r:=x.F.toNat) (s:=x.D.toNat) om om λσ=>by rw[<-d1',<-d2,hc]
  omega
 have hxe:(⟨((x.T.toNat:Nat):Int),((y1.toNat:Nat):Int),((y2.toNat:Nat):Int)⟩:P')=⟨x.T,y1,y2⟩:=by grind
 have hval:∀(N':List P') j σ,N'[j]? = some (⟨x.T,y1,y2⟩:P')->(∃M',N'=(N1++M)++M')->y1.toNat<2+j->y2.toNat<2+j->den N' σ (2+j)=den T σ (2+i):=by rintro N' j σ hj ⟨M',rfl⟩ h1 h2;rw[yQ hj h1 h2,hT.SF hx,gn _ l1',gn _ l2,d1',d2]
 have hnm:(⟨x.T,y1,y2⟩:P')∉N1++M:=λhm=>by
  obtain⟨j,hj⟩:=List.mem_iff_getElem?.1 hm;have UM:=(List.getElem?_eq_some_iff.1 hj).1;obtain⟨_,p1,p2,_⟩:=w2.nd j _ hj;simp only at p1 p2;obtain⟨r0,Vz⟩:=h.acS j UM;obtain⟨q1,q2,_,_,q5⟩:=h.sound r0 _ Vz;have:=hT.canon hO.lv (r:=r0.toNat) (s:=2+i) q2 om λσ=>by rw[<-q5,toNat_natCast];exact hval _ j σ hj ⟨[],by simp⟩ om om
  rw[show r0=((2+i:Nat):Int)by omega,Tj]at Vz;cases Vz
 have Zn:cP ord (λσ=>den T σ (2+i)) N=((N1++M)++[⟨x.T,y1,y2⟩],2+(N1++M).length):=by rw[G_ hO hN hv hd,f1,f2,e1,e2];simp only[Y9];rw[if_neg QI,hxe,if_neg hnm]
 refine⟨Zn,?_⟩;have s3:=rL hO hN (hT.Uq hO (r:=2+i) om);rw[Zn]at s3;refine⟨s3.1,?_,?_,λr y hr=>?_,λj hj=>?_⟩;·rw[bH,if_neg om];exact h.c0
 ·rw[bH,if_neg om];exact h.c1
 ·rw[bH]at hr;by_cases Z3:r=((2+i:Nat):Int);·grind [toNat_natCast]
  ·rw[if_neg Z3]at hr;obtain⟨q1,q2,q3,q4,q5⟩:=h.sound r y hr;exact⟨q1,q2,q3,by rw[length_append];omega,λσ=>by rw[gn _ q4,q5]⟩
 ·have hlen:((N1++M)++[(⟨x.T,y1,y2⟩:P')]).length=(N1++M).length+1:=by rw[length_append];rfl
  rw[hlen]at hj;by_cases SU:j<(N1++M).length;·obtain⟨r,hr⟩:=h.acS j SU;refine⟨r,?_⟩;rw[bH,if_neg,hr];rintro rfl;rw[Tj]at hr;cases hr
  ·grind [bH]
end
def Vd(N:List P')(r:Int):Prop:=0<=r/\r.toNat<2+N.length
def dn(N:List P')(r:Int)(σ:R7):Bool:=den N σ r.toNat
def RA(N N':List P'):Prop:=∃M,N'=N++M
theorem RA.refl(N:List P'):RA N N:=⟨[],by simp⟩
theorem RA.trans{A B C:List P'}(h:RA A B)(h':RA B C):RA A C:=let ⟨M,a⟩:=h;let ⟨M',b⟩:=h';⟨M++M',by rw[b,a,List.append_assoc]⟩
theorem RA.len{A B:List P'}(h:RA A B):A.length<=B.length:=by obtain⟨M,rfl⟩:=h;simp
variable{N':List P'}
theorem Vd.pre{r:Int}(h:Vd N r)(hp:RA N N'):Vd N' r:=⟨h.1,by have:=h.2;have:=hp.len;omega⟩
theorem cG{r:Int}(h:Vd N r)(hp:RA N N'):dn N' r=dn N r:=by obtain⟨M,rfl⟩:=hp;funext σ;exact gn M h.2
theorem RA.lvl{n:Nat}{lev:Nat->Nat}{N N':List P'}{r:Int}(h:Vd N r)(hp:RA N N'):lvl n lev N' r.toNat=lvl n lev N r.toNat:=by obtain⟨M,rfl⟩:=hp;exact kr M h.2
theorem Y0:Vd N 0:=⟨by decide,by show 0<_;omega⟩
theorem YZ:Vd N 1:=⟨by decide,by show 1<_;omega⟩
theorem W_:dn N 0=λ_=>false:=by funext σ;exact jq
theorem W9:dn N 1=λ_=>true:=by funext σ;exact kG
structure TB(n:Nat)(lev:Nat->Nat)(nodes:List P')(unique memo:Qa Int):Prop where
 wt:WT n lev nodes
 uq:∀v lo hi r,bB unique [v,lo,hi]=some r↔∃i,r=((2+i:Nat):Int)/\nodes[i]? = some ⟨v,lo,hi⟩
 me:∀c a b r,bB memo [c,a,b]=some r->(Vd nodes c/\Vd nodes a/\Vd nodes b)/\Vd nodes r/\∀σ,dn nodes r σ=bif dn nodes c σ then dn nodes a σ else dn nodes b σ
section
variable{n:Nat}{lev:Nat->Nat}{ord:List Nat}{nodes:List P'}{unique memo:Qa Int}
theorem TB.nil:TB n lev [] de de:=⟨WT.nil,λv lo hi r=>⟨λh=>by simp[h_]at h,λ⟨i,_,h⟩=>by simp at h⟩,λc a b r h=>by simp[h_]at h⟩
theorem TB.Ux(h:TB n lev nodes unique memo){v lo hi r:Int}(hr:bB unique [v,lo,hi]=some r):Vd nodes r/\∀σ,dn nodes r σ=bif σ v.toNat then dn nodes hi σ else dn nodes lo σ:=by
 obtain⟨i,rfl,Q9⟩:=(h.uq v lo hi r).1 hr;have hl:=(List.getElem?_eq_some_iff.1 Q9).1;refine⟨⟨om,by rw[toNat_natCast];omega⟩,λσ=>?_⟩
 unfold dn;rw[toNat_natCast];exact h.wt.SF Q9 σ
theorem TB.TA(h:TB n lev nodes unique memo){v lo hi:Int}(hv:0<=v/\v<n)(Sr:Vd nodes lo)(Sx:Vd nodes hi)(QI:lo≠hi)(h1:lev v.toNat<lvl n lev nodes lo.toNat)(h2:lev v.toNat<lvl n lev nodes hi.toNat)(Tj:bB unique [v,lo,hi]=none) :
  TB n lev (nodes++[⟨v,lo,hi⟩]) (QL unique [v,lo,hi] (2+nodes.length)) memo/\Vd (nodes++[⟨v,lo,hi⟩]) (2+nodes.length)/\
   ∀σ,dn (nodes++[⟨v,lo,hi⟩]) (2+nodes.length) σ=bif σ v.toNat then dn nodes hi σ else dn nodes lo σ:=by
 have hnm:(⟨v,lo,hi⟩:P')∉nodes:=λhm=>by obtain⟨i,Q9⟩:=List.mem_iff_getElem?.1 hm;have:=(h.uq v lo hi _).2 ⟨i,rfl,Q9⟩;rw[Tj]at this;cases this
 have hp:RA nodes (nodes++[⟨v,lo,hi⟩]):=⟨_,rfl⟩;have w:=h.wt.snoc (x:=⟨v,lo,hi⟩) hv ⟨Sr.1,by have:=Sr.2;have:=Sr.1;simp only;omega⟩ ⟨Sx.1,by have:=Sx.2;have:=Sx.1;simp only;omega⟩ QI h1 h2 hnm;have R9:(nodes++[⟨v,lo,hi⟩])[nodes.length]? = some (⟨v,lo,hi⟩:P'):=by simp
 refine⟨⟨w,λv' lo' Q9 r=>?_,λc a b r hr=>?_⟩,⟨om,by rw[length_append,length_singleton];omega⟩,λσ=>?_⟩
 ·rw[jp];constructor
  ·intro hh;by_cases he : [v',lo',Q9]=[v,lo,hi];·grind
   ·rw[if_neg he]at hh;obtain⟨i,a,b⟩:=(h.uq _ _ _ _).1 hh;exact⟨i,a,by rw[List.getElem?_append_left (List.getElem?_eq_some_iff.1 b).1];exact b⟩
  ·rintro⟨i,rfl,UZ⟩;have SV:=(List.getElem?_eq_some_iff.1 UZ).1;rw[length_append,length_singleton]at SV;by_cases hi3:i<nodes.length;·rw[List.getElem?_append_left hi3]at UZ;have:=(h.uq v' lo' Q9 _).2 ⟨i,rfl,UZ⟩;rw[if_neg,this];intro he;simp only[List.cons.injEq,and_true]at he;obtain⟨rfl,rfl,rfl⟩:=he;rw[Tj]at this;cases this
   ·grind
 ·obtain⟨⟨p1,p2,p3⟩,p4,p5⟩:=h.me c a b r hr;exact⟨⟨p1.pre hp,p2.pre hp,p3.pre hp⟩,p4.pre hp,λσ=>by rw[cG p4 hp,cG p1 hp,cG p2 hp,cG p3 hp];exact p5 σ⟩
 ·have:=w.SF R9 σ;unfold dn;rw[show(2+(nodes.length:Int)).toNat=2+nodes.length by omega,this];simp only;rw[gn _ Sr.2,gn _ Sx.2]
theorem TB.XR(h:TB n lev nodes unique memo){c a b r:Int}(hc:Vd nodes c)(ha:Vd nodes a)(hb:Vd nodes b)(hr:Vd nodes r)(hd:∀σ,dn nodes r σ=bif dn nodes c σ then dn nodes a σ else dn nodes b σ):TB n lev nodes unique (QL memo [c,a,b] r):=by
 refine⟨h.wt,h.uq,λc' a' b' r' hh=>?_⟩;rw[jp]at hh;by_cases he : [c',a',b']=[c,a,b];·simp_all
 ·rw[if_neg he]at hh;exact h.me c' a' b' r' hh
end
def ZQ(o:List Int)(n:Int)(i:Nat):Int:=
 if P9 o (i:Int)<0\/n<=P9 o (i:Int)then 3 else if ∃k<i,P9 o (k:Int)=P9 o (i:Int)then 6 else 0
def pK(o:List Int)(n:Int):Int:=if n<0\/24<n then 3 else if (o.length:Int)≠n then 11 else mT (ZQ o n) o.length
variable{o:List Int}
theorem pn{n:Int}{Q:Option Int->Prop}(h:Q (pU (pK o n))):ji o n Q:=by
 unfold pK at h;refine⟨λb=>b=decide (n<0\/24<n),Qb (λh0=>?_) (λh0=>?_),λb hb=>?_⟩;·rw[decide_eq_true (.inl h0)]
 ·exact decide_eq_decide.2 om
 subst hb;refine Qb (λh0=>?_) (λh0=>iY (λh2=>?_) (λh2=>?_))
 ·rw[if_pos h0]at h;exact h
 ·rw[if_neg h0,if_pos h2]at h;exact h
 ·rw[if_neg h0,if_neg om]at h;subst h2;refine⟨⟨om,om,om⟩,?_⟩
  refine bu (n:=o.length) (λi y=>(y.1=(i:Int)/\∀j,j<i->ZQ o o.length j=0)/\y.2.length=o.length/\∀v:Nat,v<o.length->(P9 y.2 (v:Int)=true↔∃k<i,P9 o (k:Int)=(v:Int))) (λy=>y.1) 0
   (λi y hy=>by rw[hy.1.1];omega) ⟨⟨rfl,λj hj=>absurd hj om⟩,by simp[bA],λv hv=>?_⟩ ?_ ?_
  ·constructor;·intro hb;simp[P9,bA,List.getD_eq_getElem?_getD,hv]at hb
   ·rintro⟨k,hk,_⟩;omega
  ·rintro i ⟨x,seen⟩ next hi ⟨⟨hx,hz⟩,hl,hs⟩ hn
   dsimp only at hx hl hs;subst hx;have hit:∀e,ZQ o o.length i=e->e≠0->Q (pU e):=λe he QI=>by have:=lI hz (by rw[he];exact QI) o.length hi;rw[this,he]at h;exact h
   refine Qb (λ_=>⟨⟨om,om⟩,λb=>b=decide (P9 o (i:Int)<0\/(o.length:Int)<=P9 o (i:Int)),Qb (λh3=>?_) (λh3=>?_),λb hb=>?_⟩) (λhc=>absurd (show(i:Int)<o.length by omega) hc);·rw[decide_eq_true (.inl h3)]
   ·exact decide_eq_decide.2 om
   subst hb;refine Qb (λh3=>hit 3 (by rw[ZQ,if_pos h3]) (by decide)) (λh3=>⟨om,?_⟩)
   obtain⟨v,hv⟩:∃v:Nat,P9 o (i:Int)=v:=⟨(P9 o (i:Int)).toNat,om⟩;have Vi:v<o.length:=om;rw[hv];have hsv:=hs v Vi;refine aB (λh4=>hit 6 (by rw[ZQ,if_neg h3,hv,if_pos (hsv.1 h4)]) (by decide)) (λh4=>⟨om,Qo,hn _ ⟨⟨by dsimp only;omega,λj hj=>?_⟩,by dsimp only;rw[ck];exact hl,λu hu=>?_⟩⟩)
   ·rcases lt_or_ge j i with h5|h5;·exact hz j h5
    ·obtain rfl:j=i:=om;rw[ZQ,if_neg h3,hv,if_neg (λhc=>by rw[hsv.2 hc]at h4;cases h4)]
   ·dsimp only;rw[dO om];split;·rename_i he;subst he;exact⟨λ_=>⟨i,om,hv⟩,λ_=>rfl⟩
    ·rename_i he;rw[hs u hu];constructor;·rintro⟨k,hk,Wn⟩;exact⟨k,om,Wn⟩
     ·rintro⟨k,hk,Wn⟩;rcases lt_or_ge k i with h5|h5;·exact⟨k,h5,Wn⟩
      ·obtain rfl:k=i:=om;omega
  ·rintro⟨x,seen⟩ next ⟨⟨hx,hz⟩,_⟩
   dsimp only at hx;subst hx;refine Qb (λhc=>absurd hc om) (λ_=>?_)
   rw[dv.2 hz]at h;exact h
structure Rv(o:List Int):Prop where
 le:o.length<=24
 rg:∀i:Nat,i<o.length->0<=P9 o (i:Int)/\P9 o (i:Int)<o.length
 inj:∀i j:Nat,i<o.length->j<o.length->P9 o (i:Int)=P9 o (j:Int)->i=j
theorem rT(h:pK o o.length=0):Rv o:=by
 unfold pK at h;split at h;·cases h
 ·rw[if_neg Qy]at h;have hz:=dv.1 h;have hp:∀i,i<o.length->(0<=P9 o (i:Int)/\P9 o (i:Int)<o.length)/\∀k,k<i->P9 o (k:Int)≠P9 o (i:Int):=λi hi=>by
   have:=hz i hi;unfold ZQ at this;split at this;·cases this
   ·split at this;·cases this
    ·rename_i h1 h2;exact⟨om,λk hk he=>h2 ⟨k,hk,he⟩⟩
  refine⟨om,λi hi=>(hp i hi).1,λi j hi hj he=>?_⟩;rcases Nat.lt_trichotomy i j with h1|h1|h1;·exact absurd he ((hp j hj).2 i h1)
  ·exact h1
  ·exact absurd he.symm ((hp i hi).2 j h1)
theorem xi(h:Rv o):pK o o.length=0:=by have:=h.le;unfold pK;rw[if_neg om,if_neg Qy];refine dv.2 λi hi=>?_;have:=h.rg i hi;rw[ZQ,if_neg om,if_neg (λ⟨k,hk,he⟩=>by have:=h.inj k i om hi he;omega)]
theorem tU:∀(m:Nat) (l:List Nat),l.Nodup->(∀x∈l,x<m)->l.length<=m
 | 0,l,_,h=>by
  cases l with
  | nil=>simp
  | cons x l=>have:=h x Qy;omega
 | m+1,l,hd,h=>by
  by_cases hm:m∈l
  ·have h1:=tU m (l.erase m) (hd.erase m) (λx hx=>by
    have h2:=h x (List.mem_of_mem_erase hx);have h3:x≠m:=λhe=>by subst he;exact(hd.not_mem_erase) hx
    omega)
   have:=List.length_erase_of_mem hm;omega
  ·have:=tU m l hd (λx hx=>by
    have h2:=h x hx;have h3:x≠m:=λhe=>hm (he▸hx);omega)
   omega
theorem Gx{l:List Nat}(hd:l.Nodup)(h:∀x∈l,x<l.length)(hv:v<l.length):v∈l:=by
 by_cases hm:v∈l;·exact hm
 ·exfalso;have h1:=tU l.length (v::l) (List.nodup_cons.2 ⟨hm,hd⟩) (λx hx=>by
   rcases List.mem_cons.1 hx with rfl|hx;·exact hv
   ·exact h x hx)
  simp at h1;omega
def jn(o:List Int):List Nat:=o.map toNat
def eU(o:List Int):Nat->Nat:=λv=>(jn o).idxOf v
section
variable{o:List Int}
theorem iD:(jn o).length=o.length:=by simp[jn]
theorem qo(h:i<o.length):(jn o)[i]? = some (P9 o (i:Int)).toNat:=by simp[jn,P9,List.getD_eq_getElem?_getD,List.getElem?_eq_getElem h]
theorem Rv.nodup(h:Rv o):(jn o).Nodup:=by rw[List.Nodup,List.pairwise_iff_getElem];intro i j hi hj Sv he;rw[iD]at hi hj;have h1:=qo hi;have h2:=qo hj;rw[List.getElem?_eq_getElem (by rw[iD];exact hi)]at h1;rw[List.getElem?_eq_getElem (by rw[iD];exact hj)]at h2;have h3:=Option.some.inj h1;have h4:=Option.some.inj h2;have h5:=h.rg i hi;have h6:=h.rg j hj;have:=h.inj i j hi hj om;omega
theorem Rv.all(h:Rv o)(hv:v<o.length):v∈jn o:=by
 refine Gx h.nodup (λx hx=>?_) (by rw[iD];exact hv);obtain⟨i,hi⟩:=List.mem_iff_getElem?.1 hx;have SV:i<o.length:=by have:=(List.getElem?_eq_some_iff.1 hi).1;rwa[iD]at this
 rw[qo SV]at hi;have:=h.rg i SV;rw[iD];have:=Option.some.inj hi;omega
theorem Rv.Ve(h:Rv o)(hi:i<o.length):eU o (P9 o (i:Int)).toNat=i:=by
 have h1:=qo hi;have SV:i<(jn o).length:=by rw[iD];exact hi
 rw[List.getElem?_eq_getElem SV]at h1;unfold eU;rw[<-Option.some.inj h1];exact h.nodup.idxOf_getElem i SV
theorem Rv.Rg(h:Rv o)(hv:v<o.length):eU o v<o.length/\P9 o (eU o v:Int)=v:=by
 have hm:=h.all hv;have hl:eU o v<(jn o).length:=List.idxOf_lt_length_of_mem hm;have UY:eU o v<o.length:=by rwa[iD]at hl
 refine⟨UY,?_⟩;have h1:=qo UY;rw[List.getElem?_eq_getElem hl]at h1;have h2:(jn o)[eU o v]=v:=List.getElem_idxOf hl;rw[h2]at h1;have:=h.rg _ UY;have:=Option.some.inj h1;omega
theorem Rv.ord(h:Rv o):SH o.length (eU o) (jn o):=by
 refine⟨⟨λi j hi hj he=>?_,λi hi=>(h.Rg hi).1⟩,iD,λi v hi=>?_,λv hv=>?_⟩;·have h1:=(h.Rg hi).2;have h2:=(h.Rg hj).2;rw[he]at h1;omega
 ·have SV:i<o.length:=by have:=(List.getElem?_eq_some_iff.1 hi).1;rwa[iD]at this
  rw[qo SV]at hi;have h1:=Option.some.inj hi;have h2:=h.rg i SV;exact⟨om,by rw[<-h1];exact h.Ve SV⟩
 ·have h1:=h.Rg hv;rw[qo h1.1,h1.2];rfl
theorem yi(h:Rv o)(hQ:∀r:List Int,r.length=o.length->(∀v:Nat,v<o.length->P9 r (v:Int)=(eU o v:Int))->Q r):nX o Q:=by
 have hle:=h.le;refine⟨⟨om,om,om⟩,?_⟩;refine bu (n:=o.length) (λi y=>y.1=(i:Int)/\y.2.length=o.length/\∀v:Nat,v<o.length->eU o v<i->P9 y.2 (v:Int)=(eU o v:Int)) (λy=>y.1) 0 (λi y hy=>by rw[hy.1];omega) ⟨rfl,by simp[bA],λv hv hl=>absurd hl om⟩ ?_ ?_
 ·rintro i ⟨x,out⟩ next hi ⟨hx,hl,hI⟩ hn
  dsimp only at hx hl hI;subst hx;have hr:=h.rg i hi;obtain⟨v,hv⟩:∃v:Nat,P9 o (i:Int)=v:=⟨(P9 o (i:Int)).toNat,om⟩;have Zf:=h.Ve hi;rw[hv,toNat_natCast]at Zf;refine Qb (λ_=>⟨⟨om,om⟩,om,Qo,hn _ ⟨by dsimp only;omega,by dsimp only;rw[ck];exact hl,λu hu XY=>?_⟩⟩) (λhc=>absurd (show(i:Int)<o.length by omega) hc);dsimp only;rw[hv,dO om];split;·rename_i he;subst he;rw[Zf]
  ·rename_i he;refine hI u hu ?_;rcases lt_or_ge (eU o u) i with h5|h5;·exact h5
   ·have h6:=(h.Rg hu).2;rw[show eU o u=i by omega,hv]at h6;omega
 ·rintro⟨x,out⟩ next ⟨hx,hl,hI⟩
  dsimp only at hx hl hI;subst hx;exact Qb (λhc=>absurd hc om) (λ_=>hQ out hl λv hv=>hI v hv (h.Rg hv).1)
theorem tQ{Q:List Int->Option Int->Prop}(h1:pK o o.length≠0->Q [] (pU (pK o o.length)))(h2:Rv o->∀r:List Int,r.length=o.length->(∀v:Nat,v<o.length->P9 r (v:Int)=(eU o v:Int))->Q r none):kn o Q:=by
 refine pn ?_;by_cases h0:pK o o.length=0;·rw[h0];refine aB (λhb=>by cases hb) (λ_=>yi (rT h0) (h2 (rT h0)))
 ·have:isSome (pU (pK o o.length))=true:=by simp[pU,h0]
  exact aB (λ_=>h1 h0) (λhb=>by rw[this]at hb;cases hb)
end
theorem CX{y:P'} : [x.T,x.F,x.D]=[y.T,y.F,y.D]↔x=y:=by cases x;cases y;simp
def vJ(o:List Int)(N:List P')(r v:Int):Bool:=decide (r<2)||decide (eU o v.toNat<eU o (P9 N (r-2)).T.toNat)
def wC(o:List Int)(N:List P')(i:Nat):Int:=
 if ((P9 N (i:Int)).T<0\/(o.length:Int)<=(P9 N (i:Int)).T)\/((P9 N (i:Int)).F<0\/1+(i:Int)<(P9 N (i:Int)).F)\/(P9 N (i:Int)).D<0\/1+(i:Int)<(P9 N (i:Int)).D then 10
 else if (P9 N (i:Int)).F=(P9 N (i:Int)).D then 2
 else if vJ o N (P9 N (i:Int)).F (P9 N (i:Int)).T=false\/vJ o N (P9 N (i:Int)).D (P9 N (i:Int)).T=false then 13 else 0
def Wx(o:List Int)(N:List P')(i:Nat):Int:=if wC o N i≠0 then wC o N i else if ∃k<i,P9 N (k:Int)=P9 N (i:Int)then 6 else 0
def dgE(d:Qs):Int:=
 if pK d.M d.M.length≠0 then pK d.M d.M.length
 else if 4096<d.N.length then 4
 else if mT (Wx d.M d.N) d.N.length≠0 then mT (Wx d.M d.N) d.N.length
 else if d.V<0\/1+(d.N.length:Int)<d.V then 10
 else if QY d.N d.V.toNat []=upto d.N.length then 0 else 2
theorem pN(h:Wx o N i=0) :
  (0<=(P9 N (i:Int)).T/\(P9 N (i:Int)).T<o.length)/\(0<=(P9 N (i:Int)).F/\(P9 N (i:Int)).F<2+i)/\(0<=(P9 N (i:Int)).D/\(P9 N (i:Int)).D<2+i)/\(P9 N (i:Int)).F≠(P9 N (i:Int)).D/\
   vJ o N (P9 N (i:Int)).F (P9 N (i:Int)).T=true/\vJ o N (P9 N (i:Int)).D (P9 N (i:Int)).T=true/\∀k,k<i->P9 N (k:Int)≠P9 N (i:Int):=by
 unfold Wx at h;split at h;·omega
 ·rename_i h1;split at h;·cases h
  ·rename_i h2;have h0:wC o N i=0:=om;unfold wC at h0;split at h0;·cases h0
   ·grind
variable{d:Qs}
section
variable{o:List Int}{N:List P'}
theorem sA{r:List Int}{Q:Option Int->Prop}(hO:Rv d.M)(hl:d.N.length<=4096)(hi:i<d.N.length)(hp:∀j,j<i->Wx d.M d.N j=0)(hr:r.length=d.M.length)(Vk:∀v:Nat,v<d.M.length->P9 r (v:Int)=(eU d.M v:Int))(h:Q (pU (wC d.M d.N i))):jc d r (i:Int) Q:=by
 have adz:∀r:Int,0<=r->r<2+i->2<=r->0<=(P9 d.N (r-2)).T/\(P9 d.N (r-2)).T<d.M.length:=λr h0 h1 h2=>by have:=(pN (hp (r-2).toNat om)).1;rwa[show(((r-2).toNat:Nat):Int)=r-2 by omega]at this
 refine⟨⟨om,om⟩,λb=>b=decide (((P9 d.N (i:Int)).T<0\/(d.M.length:Int)<=(P9 d.N (i:Int)).T)\/((P9 d.N (i:Int)).F<0\/1+(i:Int)<(P9 d.N (i:Int)).F)\/(P9 d.N (i:Int)).D<0\/1+(i:Int)<(P9 d.N (i:Int)).D),?_,?_⟩
 ·refine Qb (λh1=>?_) (λh1=>Qb (λh2=>?_) (λh2=>Qb (λh3=>?_) (λh3=>⟨Qo,?_⟩)))
  ·simp_all
  ·simp_all
  ·grind
  ·grind
 rintro b rfl;refine Qb (λh1=>by rw[wC,if_pos h1]at h;exact h) (λh1=>bk (λh2=>by rw[wC,if_neg h1,if_pos h2]at h;exact h) (λh2=>?_))
 obtain⟨v,hv⟩:∃v:Nat,(P9 d.N (i:Int)).T=v:=⟨(P9 d.N (i:Int)).T.toNat,om⟩;have Vi:v<d.M.length:=om;have e0:wC d.M d.N i=if vJ d.M d.N (P9 d.N (i:Int)).F (v:Int)=false\/vJ d.M d.N (P9 d.N (i:Int)).D (v:Int)=false then 13 else 0:=by grind [wC]
 rw[e0]at h;generalize Sr:(P9 d.N (i:Int)).F=lo at h h1 h2 ⊢;generalize Sx:(P9 d.N (i:Int)).D=Q9 at h h1 h2 ⊢;refine bu (n:=2) (λk y=>y=(k:Int)/\∀j:Nat,j<k->vJ d.M d.N (P9 [lo,Q9] (j:Int)) (v:Int)=true) (λy=>y) 0 (λk y hy=>by rw[hy.1];omega) ⟨rfl,λj hj=>absurd hj om⟩ ?_ ?_
 ·rintro k _ next hk ⟨rfl,hI⟩ hn
  have T7:0<=P9 [lo,Q9] (k:Int)/\P9 [lo,Q9] (k:Int)<2+i:=by
   rcases (show k=0\/k=1 by omega)with rfl|rfl;·show 0<=lo/\lo<2+(i:Int);omega
   ·show 0<=Q9/\Q9<2+(i:Int);omega
  have aek:vJ d.M d.N (P9 [lo,Q9] (k:Int)) (v:Int)=false->Q (some 13):=λhb=>by
   rw[if_pos]at h;·exact h
   ·rcases (show k=0\/k=1 by omega)with rfl|rfl;·exact .inl hb
    ·exact .inr hb
  refine Qb (λ_=>⟨⟨om,by simp;omega⟩,k_ ?_⟩) (λhc=>absurd (show(k:Int)<(2:Nat)by omega) hc);generalize hq:P9 [lo,Q9] (k:Int)=q at T7 aek hn ⊢;refine⟨λb=>b = !(vJ d.M d.N q (v:Int)),Qb (λh3=>?_) (λh3=>?_),?_⟩
  ·have Tp:=adz q om om h3;obtain⟨u,hu⟩:∃u:Nat,(P9 d.N (q-2)).T=u:=⟨(P9 d.N (q-2)).T.toNat,om⟩;have XY:u<d.M.length:=om;refine⟨Qo,⟨om,om⟩,⟨om,om⟩,⟨om,om⟩,?_⟩;rw[hu,hv,Vk u XY,Vk v Vi,vJ,decide_eq_false om,Bool.false_or,hu,toNat_natCast,toNat_natCast,<-decide_not];exact decide_eq_decide.2 om
  ·grind [vJ]
  rintro b rfl;refine aB (λhb=>aek (by simpa using hb)) (λhb=>⟨Qo,hn _ ⟨om,λj hj=>?_⟩⟩);rcases lt_or_ge j k with h5|h5;·exact hI j h5
  ·grind
 ·rintro _ next ⟨rfl,hI⟩
  refine Qb (λhc=>absurd hc Qy) (λ_=>?_)
  rw[if_neg]at h;·exact h
  ·have h0:=hI 0 om;have Xq:=hI 1 om;rintro(hc|hc);·simp_all [P9]
   ·simp_all [P9]
end
def Bk(N:List P')(b:List Int):Prop:=b.Nodup/\∀q∈b,2<=q/\q<2+N.length
theorem Bk.nil:Bk N []:=⟨List.nodup_nil,λq h=>by simp at h⟩
theorem Bk.len{b:List Int}(h:Bk N b):b.length<=N.length:=by
 have h1:(b.map λq=>(q-2).toNat).Nodup:=by refine List.pairwise_map.2 (List.Pairwise.imp_of_mem (λ{x y} hx hy QI=>?_) h.1);have:=h.2 x hx;have:=h.2 y hy;intro he;exact QI om
 have:=tU N.length _ h1 (λx hx=>by
  obtain⟨q,hq,rfl⟩:=List.mem_map.1 hx;have:=h.2 q hq;omega)
 simpa using this
section
variable{N:List P'}
theorem Bk.QY(hK:zy N):∀(r:Nat) (b:List Int),r<2+N.length->Bk N b->Bk N (QY N r b):=by
 intro r;induction r using strongRecOn with
 | _ r ih=>
  intro b hr hb;by_cases hc:r<2\/(r:Int)∈b;·grind [iC]
  ·obtain⟨i,rfl⟩:∃i,r=2+i:=⟨r-2,om⟩;have hx:N[i]? = some (N[i]'om):=List.getElem?_eq_getElem om;have hk:=hK i _ hx;rw[lE hK hx (λhm=>hc (.inr hm))];have b1:=ih _ (show(N[i]'om).F.toNat<2+i by omega) b om hb;have b2:=ih _ (show(N[i]'om).D.toNat<2+i by omega) _ om b1;obtain⟨c1,e1,k1⟩:=oa hK (N[i]'om).F.toNat b;obtain⟨c2,e2,k2⟩:=oa hK (N[i]'om).D.toNat (Gg.QY N (N[i]'om).F.toNat b);refine⟨List.nodup_append.2 ⟨b2.1,by simp,λx hx y hy=>?_⟩,λq hq=>?_⟩;·grind
   ·rcases List.mem_append.1 hq with hq|hq;·exact b2.2 q hq
    ·grind
theorem C6(hK:zy N){b:List Int}{q:Int}(h:(r:Int)<q):q∈QY N r b↔q∈b:=by obtain⟨c,e,k⟩:=oa hK r b;rw[e,List.mem_append];exact⟨λhh=>hh.resolve_right λhc=>by have:=k q hc;omega,.inl⟩
theorem kQ(hi:i<N.length):N[i]? = some (P9 N (i:Int)):=by grind [P9]
structure NB(N:List P')(b:List Int)(ok:Bool)(next:Int)(seen:List Bool):Prop where
 nx:next=b.length
 ok:ok=true↔b=upto b.length
 len:seen.length=N.length
theorem BL(hK:zy d.N)(hl:d.N.length<=4096):∀(r fu:Nat) (b:List Int) (ok:Bool) (next:Int) (seen:List Bool),r<fu->r<2+d.N.length->Bk d.N b->NB d.N b ok next seen->(∀q:Nat,q<d.N.length->2+q<=r->(P9 seen (q:Int)=true↔((2+q:Nat):Int)∈b))->
  ∃(ok':Bool) (next':Int) (Tx:List Bool),(NB d.N (QY d.N r b) ok' next' Tx/\(∀q:Nat,q<d.N.length->2+q<=r->(P9 Tx (q:Int)=true↔((2+q:Nat):Int)∈QY d.N r b))/\∀q:Nat,q<d.N.length->r<2+q->P9 Tx (q:Int)=P9 seen (q:Int))/\
   ∀Q:Bool->Int->List Bool->Prop,Q ok' next' Tx->bI fu (r:Int) d ok next seen Q:=by
 intro r;induction r using strongRecOn with
 | _ r ih=>
  intro fu b ok next seen UN hr hb hN hS
  obtain⟨g,rfl⟩:∃g,fu=g+1:=⟨fu-1,om⟩;by_cases h1:r<2;·grind [iC,bI,Qb,absurd]
  obtain⟨i,rfl⟩:∃i,r=2+i:=⟨r-2,om⟩;have hi:i<d.N.length:=om;have YD:=hN.len;have hSi:=hS i hi om;by_cases hm:((2+i:Nat):Int)∈b;·grind [iC,bI,Qe,aB]
  have hx:=kQ (N:=d.N) hi;have hk:=hK i _ hx;generalize Sr:(P9 d.N (i:Int)).F=lo at hk;generalize Sx:(P9 d.N (i:Int)).D=Q9 at hk;have VV:=lE hK hx hm;rw[Sr,Sx]at VV;obtain⟨l,rfl⟩:∃l:Nat,lo=l:=⟨lo.toNat,om⟩;obtain⟨h',rfl⟩:∃h':Nat,Q9=h':=⟨Q9.toNat,om⟩;simp only[toNat_natCast]at VV;have b1:=Bk.QY hK l b om hb;have b2:=Bk.QY hK h' _ om b1;have Rr:∀q:Nat,P9 (Qt seen (i:Int) true) (q:Int)=if q=i then true else P9 seen (q:Int):=λq=>dO om
  obtain⟨ok1,nx1,s1,⟨n1,p1,t1⟩,w1⟩:=ih l om g b ok next (Qt seen (i:Int) true) om om hb ⟨hN.nx,hN.ok,by rw[ck];exact YD⟩ (λq hq hql=>by
   rw[Rr,if_neg om];exact hS q hq om)
  have Wj:∀q:Nat,q<d.N.length->2+q<2+i->(P9 s1 (q:Int)=true↔((2+q:Nat):Int)∈QY d.N l b):=λq hq hqi=>by
   rcases lt_or_ge l (2+q)with h5|h5;·rw[t1 q hq h5,Rr,if_neg om,C6 hK om];exact hS q hq om
   ·exact p1 q hq h5
  obtain⟨ok2,nx2,s2,⟨n2,p2,t2⟩,w2⟩:=ih h' om g (QY d.N l b) ok1 nx1 s1 om om b1 n1 (λq hq hql=>Wj q hq om);have al0:P9 s2 (i:Int)=true:=by grind
  have b2l:=b2.len;have Zk:=hb.len;have hlen:(QY d.N h' (QY d.N l b)).length=nx2.toNat:=by have:=n2.nx;omega
  refine⟨ok2&&decide ((i:Int)=nx2),nx2+1,s2,⟨⟨?_,?_,n2.len⟩,λq hq hqr=>?_,λq hq hqr=>?_⟩,λQ hQ=>?_⟩;·rw[VV,length_append,n2.nx];simp
  ·rw[VV,Bool.and_eq_true,decide_eq_true_eq,n2.ok,length_append,length_singleton,Af];have Q6:=n2.nx;constructor;·grind
   ·grind [List.append_inj']
  ·rw[VV,List.mem_append,List.mem_singleton];by_cases hqi:q=i;·simp_all
   ·have QI:((2+q:Nat):Int)≠((2+i:Nat):Int):=om;simp only[QI,or_false];rcases lt_or_ge h' (2+q)with h5|h5;·rw[t2 q hq h5,C6 hK om];exact Wj q hq om
    ·exact p2 q hq h5
  ·rw[t2 q hq om,t1 q hq om,Rr,if_neg om]
  ·rw[bI,show((2+i:Nat):Int)-2=(i:Int)by omega,Sr,Sx]
   refine Qb (λhc=>absurd hc om) (λ_=>⟨Qo,⟨om,om⟩,aB (λhc=>absurd (hSi.1 hc) hm) (λ_=>⟨Qo,⟨om,om⟩,Qo,⟨om,om⟩,
    ok1,nx1,s1,w1 _ ⟨rfl,rfl,rfl⟩,by rw[n1.len,ck];exact YD.symm,Qo,⟨om,om⟩,ok2,nx2,s2,w2 _ ⟨rfl,rfl,rfl⟩,by rw[n2.len,n1.len],λx=>x=(ok2&&decide ((i:Int)=nx2)),aB (λh5=>⟨Qo,?_⟩) (λh5=>?_),?_⟩)⟩)
   ·grind
   ·rw[h5,Bool.false_and]
   ·rintro x rfl;have Q6:=n2.nx;exact⟨Qo,hQ⟩
theorem tq{Q:Bool->Prop}(hK:zy d.N)(hl:d.N.length<=4096)(hr:0<=d.V/\d.V<2+d.N.length)(h:Q (decide (QY d.N d.V.toNat []=upto d.N.length))):jG d Q:=by
 have Ze:∀q:Nat,q<d.N.length->P9 (bA (d.N.length:Int) false) (q:Int)=false:=λq hq=>by grind [P9,bA]
 obtain⟨ok,nx,seen,⟨n1,_,_⟩,w⟩:=BL hK hl d.V.toNat (d.V.toNat+1) [] true 0 (bA (d.N.length:Int) false) om om Bk.nil ⟨rfl,by simp[upto],by simp[bA]⟩ (λq hq _=>by rw[Ze q hq];simp);have hb:=(Bk.QY hK d.V.toNat [] om Bk.nil).len;rw[show((d.V.toNat:Nat):Int)=d.V by omega]at w;refine⟨⟨om,om,om⟩,d.V.toNat+1,w _ ⟨by rw[n1.len];simp[bA],aB (λh1=>?_) (λh1=>?_)⟩⟩
 ·have h2:=n1.ok.1 h1;have Q6:=n1.nx;rw[show(nx==(d.N.length:Int))=decide (QY d.N d.V.toNat []=upto d.N.length)from ?_];·exact h
  ·grind [pt]
 ·rw[decide_eq_false]at h;·exact h
  ·intro h3;have:ok=true:=n1.ok.2 (by rw[h3,pt]);rw[this]at h1;cases h1
end
theorem Nc(h:∀i,i<N.length->Wx o N i=0):zy N:=λi x hx=>by have hi:=(List.getElem?_eq_some_iff.1 hx).1;rw[kQ hi]at hx;cases hx;have:=pN (h i hi);exact⟨this.2.1,this.2.2.1⟩
theorem vC(h:e≠0):isSome (pU e)=true:=by simp[pU,h]
theorem yP(h:e≠0):pU e=some e:=by simp[pU,h]
theorem wN{Q:Option Int->Prop}(h:Q (pU (dgE d))):mV d Q:=by
 unfold dgE at h;refine tQ (λh1=>?_) (λhO r hr Vk=>?_);·grind [aB,vC]
 refine aB (λhc=>by cases hc) (λ_=>?_)
 rw[if_neg (by rw[xi hO];simp)]at h;refine Qb (λh2=>by rw[if_pos om]at h;exact h) (λh2=>?_)
 rw[if_neg om]at h;have hl:d.N.length<=4096:=om
 refine bu (n:=d.N.length) (λi y=>(y.1=(i:Int)/\∀j,j<i->Wx d.M d.N j=0)/\∀v lo hi,bB y.2 [v,lo,hi]=some true↔∃k<i,P9 d.N (k:Int)=⟨v,lo,hi⟩) (λy=>y.1) 0
  (λi y hy=>by rw[hy.1.1];omega) ⟨⟨rfl,λj hj=>absurd hj om⟩,λv lo hi=>⟨λhc=>(by simp[h_]at hc),λ⟨k,hk,_⟩=>absurd hk om⟩⟩ ?_ ?_
 ·rintro i ⟨x,m⟩ next hi ⟨⟨hx,hz⟩,hm⟩ hn
  dsimp only at hx hm;subst hx;refine Qb (λ_=>⟨⟨om,om⟩,sA hO hl hi hz hr Vk ?_⟩) (λhc=>absurd (show(i:Int)<d.N.length by omega) hc);have hmi:=hm (P9 d.N (i:Int)).T (P9 d.N (i:Int)).F (P9 d.N (i:Int)).D;by_cases h0:wC d.M d.N i=0
  ·rw[h0];refine aB (λhc=>by cases hc) (λ_=>aB (λh3=>?_) (λh3=>⟨Qo,hn _ ⟨⟨by dsimp only;omega,λj hj=>?_⟩,λv lo Q9=>?_⟩⟩))
   ·have h4:bB m [(P9 d.N (i:Int)).T,(P9 d.N (i:Int)).F,(P9 d.N (i:Int)).D]=some true:=by
     cases hg:bB m [(P9 d.N (i:Int)).T,(P9 d.N (i:Int)).F,(P9 d.N (i:Int)).D]with
     | none=>rw[hg]at h3;cases h3
     | some b=>rw[hg]at h3;rw[show b=true from h3]
    have h6:Wx d.M d.N i=6:=by simp_all [Wx]
    have:=lI hz (by rw[h6];decide) d.N.length hi;rw[this,h6,if_pos (by decide)]at h;exact h
   ·rcases lt_or_ge j i with h5|h5;·exact hz j h5
    ·obtain rfl:j=i:=om;rw[Wx,if_neg om,if_neg];intro hc;have:=hmi.2 hc;rw[this]at h3;cases h3
   ·dsimp only;rw[jp];by_cases he : [v,lo,Q9]=[(P9 d.N (i:Int)).T,(P9 d.N (i:Int)).F,(P9 d.N (i:Int)).D]
    ·rw[if_pos he];refine⟨λ_=>⟨i,om,?_⟩,λ_=>rfl⟩
     exact(CX (x:=⟨v,lo,Q9⟩)).1 he |>.symm
    ·grind
  ·grind [Wx,lI,aB,vC]
 ·rintro⟨x,m⟩ next ⟨⟨hx,hz⟩,_⟩
  dsimp only at hx;subst hx;refine Qb (λhc=>absurd hc om) (λ_=>?_)
  rw[if_neg (by rw[dv.2 hz];simp)]at h;refine⟨λb=>b=decide (d.V<0\/1+(d.N.length:Int)<d.V),Qb (λh3=>(decide_eq_true (.inl h3)).symm) (λh3=>⟨Qo,decide_eq_decide.2 om⟩),?_⟩;rintro b rfl;refine Qb (λh3=>by rw[if_pos h3]at h;exact h) (λh3=>?_)
  rw[if_neg h3]at h;refine tq (Nc hz) hl om ?_;by_cases h4:QY d.N d.V.toNat []=upto d.N.length;·rw[if_pos h4]at h;rw[decide_eq_true h4];exact aB (λhc=>by cases hc) (λ_=>h)
  ·rw[if_neg h4]at h;rw[decide_eq_false h4];exact aB (λ_=>h) (λhc=>by cases hc)
structure VD(d:Qs):Prop where
 ord:Rv d.M
 wt:WT d.M.length (eU d.M) d.N
 root:Vd d.N d.V
 le:d.N.length<=4096
 num:QY d.N d.V.toNat []=upto d.N.length
theorem uH{r v:Int}(hO:Rv o)(hv:0<=v/\v<o.length)(hr:0<=r/\r<2+N.length):vJ o N r v=true↔eU o v.toNat<lvl o.length (eU o) N r.toNat:=by
 unfold vJ;by_cases h:r<2;·rw[decide_eq_true h,Bool.true_or,ga om];exact⟨λ_=>(hO.Rg om).1,λ_=>rfl⟩
 ·have hx:=kQ (N:=N) (i:=(r-2).toNat) om;rw[decide_eq_false h,Bool.false_or,decide_eq_true_eq,show r.toNat=2+(r-2).toNat by omega,kq hx,show(((r-2).toNat:Nat):Int)=r-2 by omega]
theorem I4:dgE d=0↔VD d:=by
 constructor
 ·intro h;unfold dgE at h;split at h;·omega
  rename_i h1;split at h;·cases h
  rename_i h2;split at h;·omega
  rename_i h3;split at h;·cases h
  rename_i h4;split at h
  ·rename_i h5;have hO:=rT (show pK d.M d.M.length=0 by omega);have hz:=dv.1 (show mT (Wx d.M d.N) d.N.length=0 by omega);refine⟨hO,⟨λi x hx=>?_,λi j x hi hj=>?_⟩,⟨om,om⟩,om,h5⟩;·have hi:=(List.getElem?_eq_some_iff.1 hx).1;rw[kQ hi]at hx;cases hx;obtain⟨a,b,c,e,f,g,_⟩:=pN (hz i hi);exact⟨a,b,c,e,(uH hO a ⟨om,om⟩).1 f,(uH hO a ⟨om,om⟩).1 g⟩
   ·have SV:=(List.getElem?_eq_some_iff.1 hi).1;have UM:=(List.getElem?_eq_some_iff.1 hj).1;rw[kQ SV]at hi;rw[kQ UM]at hj;have he:P9 d.N (i:Int)=P9 d.N (j:Int):=(Option.some.inj hi).trans (Option.some.inj hj).symm;rcases Nat.lt_trichotomy i j with h6|h6|h6;·exact absurd he ((pN (hz j UM)).2.2.2.2.2.2 i h6)
    ·exact h6
    ·exact absurd he.symm ((pN (hz i SV)).2.2.2.2.2.2 j h6)
  ·cases h
 ·intro h;have hz:∀i,i<d.N.length->Wx d.M d.N i=0:=λi hi=>by
   obtain⟨a,b,c,e,f,g⟩:=h.wt.nd i _ (kQ hi);have q1:=(uH h.ord a (r:=(P9 d.N (i:Int)).F) ⟨om,om⟩).2 f;have q2:=(uH h.ord a (r:=(P9 d.N (i:Int)).D) ⟨om,om⟩).2 g;have h0:wC d.M d.N i=0:=by grind [wC]
   rw[Wx,if_neg om,if_neg];rintro⟨k,hk,he⟩;have:=h.wt.Yn k i _ (by rw[kQ om,he]) (kQ hi);omega
  have:=h.le;have:=h.root.1;have:=h.root.2;rw[dgE,if_neg (by rw[xi h.ord];simp),if_neg om,if_neg (by rw[dv.2 hz];simp),if_neg om,if_pos h.num]
def vH(o:List Int)(f:R7->Bool):Qs:=⟨o,(cP (jn o) f []).1,(cP (jn o) f []).2⟩
def V5(s:Nat):R7:=λv=>XT s v
theorem yX{p q:Nat->Bool}:∀ {n:Nat},(∀v,v<n->p v=q v)->gI p n=gI q n
 | 0,_=>rfl
 | n+1,h=>by rw[gI,gI,yX (n:=n) (λv hv=>h v om),h n om]
theorem Je(h:s<2^n):gI (V5 s) n=s:=by
 refine Nat.eq_of_testBit_eq λi=>?_
 rw[QS];by_cases hi:i<n;·rw[decide_eq_true hi,Bool.true_and];exact Ta
 ·rw[decide_eq_false hi,Bool.false_and];exact(Nat.testBit_lt_two_pow (lt_of_lt_of_le h (pow_le_pow_right om om))).symm
theorem vD(h:n<=24):2^n<=16777216:=by have:=pow_le_pow_right (n:=2) om h;exact this
section
variable{o:List Int}{N:List P'}
theorem zm:∀(vs:List Nat) (f:R7->Bool) (N:List P'),(cP vs f N).1.length+1<=N.length+2^vs.length
 | [],f,N=>by simp[cP]
 | v::vs,f,N=>by
  have h1:=zm vs (λσ=>f (cF σ v false)) N;have h2:=zm vs (λσ=>f (cF σ v true)) (cP vs (λσ=>f (cF σ v false)) N).1;rw[cP,List.length_cons,Nat.pow_succ];unfold Y9;split;·simp only;omega
  ·split;·simp only;omega
   ·simp only[length_append,length_singleton];omega
end
end Go.Gg
