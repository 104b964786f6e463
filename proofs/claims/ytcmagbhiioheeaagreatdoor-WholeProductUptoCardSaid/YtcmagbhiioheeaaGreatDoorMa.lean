/- What the functions on natural numbers compute, told of their formulas: part A. Conditions: none. -/
import Derived.Test.YtcmagbhiioheeaaGreatDoorGc
import Derived.KernelRfl
import Derived.Test.YtcmagbhiioheeaaGreatDoorWa
import Derived.Test.YtcmagbhiioheeaaGreatDoorGd
open List (append_assoc eq_nil_of_length_eq_zero length_append length_singleton range replicate)
open Int (add_comm add_mul ediv_nonneg emod_lt_of_pos emod_nonneg eq_ofNat_of_zero_le le_of_lt le_refl lt_or_le mul_add mul_assoc mul_comm mul_ediv_add_emod mul_le_mul mul_le_mul_of_nonneg_left mul_le_mul_of_nonneg_right mul_left_comm mul_nonneg mul_right_comm natCast_add natCast_mul pow_add pow_succ sub_mul sub_zero toNat toNat_natCast)
open Nat (gcd gcd_comm le_trans lt_or_ge mod_eq_of_lt mod_lt mul_ne_zero mul_one pow_le_pow_right pow_pos)
open Go.IntKind (wrap)
open Bool (false_eq_true)
namespace Go.Gg
theorem sx (l:List Int) (i:Int):at' l i=l.getD i.toNat 0:=rfl
theorem fU (l:List Int) (i:Nat):at' l (i:Int)=l.getD i 0:=rfl
theorem fG {α:Type} (l:List α) (i:Nat) (x:α):aN l (i:Int) x=l.set i x:=rfl
theorem tR {α:Type} (n:Nat) (x:α):aQ (n:Int) x=replicate n x:=rfl
theorem jh {α:Type} {f:(α->Prop)->Prop} {k:α->Prop} (h:f k):bM f k:=⟨k,h,λ_ h=>h⟩
theorem gt {α:Type} {e:α} {k:α->Prop} (h:k e):iS e k:=λ_ hv=>hv▸h
theorem condT {c:Prop} [Decidable c] {a b:Prop} (h1:c->a) (h2:¬c->b):ac (decide c) a b:=⟨λh=>h1 (of_decide_eq_true h),λh=>h2 (of_decide_eq_false h)⟩
theorem bv {α:Type} [DecidableEq α] {x y:α} {a b:Prop} (h1:x=y->a) (h2:x≠y->b):ac (x == y) a b:=⟨λh=>h1 (by simpa using h),λh=>h2 (by simpa using h)⟩
theorem ga {α:Type} [DecidableEq α] {x y:α} {a b:Prop} (h1:x≠y->a) (h2:x=y->b):ac (x != y) a b:=⟨λh=>h1 (by simpa using h),λh=>h2 (by simpa using h)⟩
theorem i_ {b:Nat} {n:Nat} (hb:b<=200) (h:n<=1099511627776):fS b (n:Int) (n:Int):=⟨om,le_refl _,by
 have:(b:Int)*(n:Int)<=200*1099511627776:=mul_le_mul om om om om
 omega,om⟩
abbrev SM (l:List Int):Prop:=l.length<=1099511627776
theorem dB {a:List Int} {i:Nat} {Q:Int->Prop} (hw:az a) (h:Q (a.getD i 0)):cB a (i:Int) Q:=by
 refine condT (λhc=>⟨⟨om,hc⟩,?_⟩) (λhc=>?_)
 ·rw[fU]
  have:=hw i
  rw[wrap_u64_id om om]
  exact h
 ·rw[pk om] at h
  exact h
theorem bG {a:List Int} {Q:List Int->Prop} (hw:az a) (hl:SM a) (h:Q (lim (val a))):bz a Q:=by
 refine⟨λn=>∃j:Nat,n=j/\j<=a.length/\(∀i,j<=i->i<a.length->a.getD i 0=0)/\(0<j->a.getD (j-1) 0≠0),?_,?_⟩
 ·refine⟨λn=>∃j:Nat,n=j/\j<=a.length/\(∀i,j<=i->i<a.length->a.getD i 0=0),λn=>n.toNat,⟨a.length,rfl,Nat.le_refl _,λi h1 h2=>om⟩,?_⟩
  rintro n ⟨j,rfl,hj,hz⟩
  refine condT (λhc=>⟨zRg,⟨om,om⟩,bv (λhe=>⟨zRg,⟨j-1,om,om,λi h1 h2=>?_⟩,by dsimp only;omega⟩) (λhe=>⟨j,rfl,hj,hz,λ_=>?_⟩)⟩) (λhc=>⟨j,rfl,hj,hz,λh0=>om⟩)
  ·by_cases hi:i=j-1
   ·subst hi
    rw[sx] at he
    have:((j:Int)-1).toNat=j-1:=om
    rwa[this] at he
   ·exact hz i om h2
  ·rw[sx] at he
   have:((j:Int)-1).toNat=j-1:=om
   rwa[this] at he
 ·rintro n ⟨j,rfl,hj,hz,hlast⟩
  have e:=rk hw hj hz hlast
  refine bv (λhc=>?_) (λhc=>⟨⟨om,om,om⟩,?_,?_⟩)
  ·obtain rfl:j=0:=om
   rw[<-e] at h
   exact h
  ·simp[fe]
   have:min j a.length<=a.length:=om
   omega
  ·rw[<-e] at h
   simpa[fe] using h
theorem fi {a b:List Int} {Q:Int->Prop} (ha:az a) (hb:az b) (la:SM a) (lb:SM b) (h:Q (kD (val a) (val b))):du a b Q:=by
 refine bG ha la (bG hb lb ?_)
 have b1:=dp ha
 have b2:=dp hb
 have w1:=aD (val a)
 have w2:=aD (val b)
 have v1:=bO w1
 have v2:=bO w2
 rw[aM] at v1 v2
 generalize hA:lim (val a)=A at *
 generalize hB:lim (val b)=B at *
 have hlt:A.length<B.length->val a<val b:=λh=>by
  rw[<-hA,<-hB] at h
  rcases lt_or_ge (val a) (val b) with h' | h'
  ·exact h'
  ·have:=cV h'
   omega
 have hgt:B.length<A.length->val b<val a:=λh=>by
  rw[<-hA,<-hB] at h
  rcases lt_or_ge (val b) (val a) with h' | h'
  ·exact h'
  ·have:=cV h'
   omega
 unfold SM at la lb
 refine ga (λhc=>condT (λh1=>?_) (λh1=>?_)) (λhc=>⟨zRg,?_⟩)
 ·rw[kD,if_pos (hlt om)] at h;exact h
 ·have:=hgt om
  rw[kD,if_neg om,if_neg om] at h;exact h
 ·have hlen:A.length=B.length:=om
  refine⟨λi=>∃j:Nat,i=(j:Int)-1/\j<=A.length/\(∀k,j<=k->k<A.length->A.getD k 0=B.getD k 0),λi=>(i+1).toNat,⟨A.length,rfl,Nat.le_refl _,λk h1 h2=>om⟩,?_⟩
  rintro i ⟨j,rfl,hj,he⟩
  have hj1:((j:Int)-1).toNat=j-1:=om
  refine condT (λhc=>⟨⟨om,om⟩,⟨om,om⟩,?_⟩) (λhc=>?_)
  ·rw[sx,sx,hj1]
   refine condT (λh1=>?_) (λh1=>⟨⟨om,om⟩,⟨om,om⟩,condT (λh2=>?_) (λh2=>⟨zRg,⟨j-1,om,om,λk h3 h4=>?_⟩,by dsimp only;omega⟩)⟩)
   ·have:=BP w1 w2 (i:=j-1) (n:=A.length) om h1 (λk h1 h2=>he k om h2)
    rw[<-hlen] at v2
    rw[kD,if_pos om] at h;exact h
   ·have:=BP w2 w1 (i:=j-1) (n:=A.length) om h2 (λk h1 h2=>(he k om h2).symm)
    rw[<-hlen] at v2
    rw[kD,if_neg om,if_neg om] at h;exact h
   ·by_cases hk:k=j-1
    ·subst hk;omega
    ·exact he k om h4
  ·have:=jL (l:=A) (m:=B) A.length (λk hk=>he k om hk)
   rw[<-hlen] at v2
   rw[kD,if_neg om,if_pos om] at h;exact h
theorem wx {a b:List Int} {Q:List Int->Prop} (ha:az a) (hb:az b) (la:SM a) (lb:a.length<=1099511627775/\b.length<=1099511627775) (h:Q (lim (val a+val b))):jy a b Q:=by
 unfold SM at la
 obtain⟨n,hn0⟩:∃n,n=max a.length b.length+1:=⟨_,rfl⟩
 have hn:max (a.length:Int) (b.length:Int)+1=(n:Int):=om
 unfold jy
 rw[hn]
 refine⟨zRg,i_ om om,?_⟩
 rw[toNat_natCast]
 refine⟨λy=>∃i:Nat,y.2.1=i/\i<=n/\y.2.2.length=n/\az y.2.2/\0<=y.1/\y.1<=1/\pv y.2.2 i+y.1*4294967296^i=pv a i+pv b i,λy=>n-y.2.1.toNat,⟨0,rfl,om,by simp[aQ],az.rep n,om,om,by simp[pv]⟩,?_⟩
 rintro⟨c,x,out⟩ ⟨i,hx,hi,hlen,hw,hc0,hc1,hpv⟩
 simp only at hx hi hlen hw hc0 hc1 hpv
 subst hx
 have hxl:=ha i
 have hxm:=hb i
 refine condT (λhlt=>?_) (λhge=>?_)
 ·refine dB ha (dB hb (gt ⟨⟨om,om⟩,zRg,?_,?_⟩))
  ·simp (disch:=omega) only[fG,wrap_u64_id,wrap_u32]
   refine⟨i+1,om,om,by simp[hlen],hw.set _ om om,by show 0<=_ / 4294967296;omega,by show _ / 4294967296<=1;omega,?_⟩
   show pv (out.set i _) (i+1)+_ / 4294967296*_=_
   rw[uK om,pow_succ,pv,pv,Int.add_assoc,nq]
   have:=add_mul c (a.getD i 0+b.getD i 0) (4294967296^i)
   have:=add_mul (a.getD i 0) (b.getD i 0) (4294967296^i)
   omega
  ·show n-((i:Int)+1).toNat<n-(i:Int).toNat
   omega
 ·obtain rfl:i=n:=om
  refine bG hw (by unfold SM;omega) ?_
  have e:val out=val a+val b:=by
   have a1:=fl hw (i:=i) om
   have a2:=fl ha (i:=i) om
   have a3:=fl hb (i:=i) om
   have b2:=sV (l:=a) (i-1) om
   have b3:=sV (l:=b) (i-1) om
   have b4:=sV (l:=a) i om
   have b5:=sV (l:=b) i om
   have c2:=(bb ha (i-1)).2
   have c3:=(bb hb (i-1)).2
   have hi1:i=i-1+1:=om
   have hc:=hpv
   rw[hi1,pow_succ,<-hi1] at hc
   have:=A_ hc om om om hc0 hc1 (fq _)
   subst this
   omega
  rw[e]
  exact h
theorem pL {a b:List Int} {Q:List Int->Option Int->Prop} (ha:az a) (hb:az b) (la:SM a) (lb:SM b) (h1:val a<val b->Q [] (some 3)) (h2:val b<=val a->Q (lim (val a-val b)) none):jw a b Q:=by
 refine fi ha hb la lb (condT (λhc=>h1 (nO.1 hc)) (λhc=>⟨i_ om la,?_⟩))
 have hge:val b<=val a:=by have:=mt nO.2 hc;omega
 have h:=h2 hge
 clear h1 h2
 unfold SM at la lb
 rw[toNat_natCast]
 refine⟨λy=>∃i:Nat,y.2.1=i/\i<=a.length/\y.2.2.length=a.length/\az y.2.2/\0<=y.1/\y.1<=1/\pv y.2.2 i=pv a i-pv b i+y.1*4294967296^i,λy=>a.length-y.2.1.toNat,⟨0,rfl,om,by simp[aQ],az.rep _,om,om,by simp[pv]⟩,?_⟩
 rintro⟨c,x,out⟩ ⟨i,hx,hi,hlen,hw,hb0,hb1,hpv⟩
 simp only at hx hi hlen hw hb0 hb1 hpv
 subst hx
 have hxl:=ha i
 have hxm:=hb i
 obtain⟨q1,q2,q3⟩:=uh (a.getD i 0) (b.getD i 0) c hxl hxm ⟨hb0,hb1⟩
 refine condT (λhlt=>dB ha (dB hb (gt ⟨⟨om,om⟩,zRg,?_,by dsimp only;omega⟩))) (λhge=>?_)
 ·simp only[fG,wrap_u32]
  generalize IntKind.u64.wrap (IntKind.u64.wrap (a.getD i 0-b.getD i 0)-c)=d at *
  have e63:d / 2^toNat 63=d / 9223372036854775808:=rfl
  refine⟨i+1,om,om,by simp[hlen],hw.set _ om om,by simpa only[e63] using q2,by simpa only[e63] using q3,?_⟩
  simp only[e63]
  rw[uK om,pow_succ,pv,pv,hpv]
  have e:d % 4294967296=a.getD i 0-b.getD i 0-c+4294967296*(d / 9223372036854775808):=om
  rw[e]
  generalize d / 9223372036854775808=d'
  have a1:=add_mul (a.getD i 0-b.getD i 0-c) (4294967296*d') (4294967296^i)
  have a2:=sub_mul (a.getD i 0-b.getD i 0) c (4294967296^i)
  have a3:=sub_mul (a.getD i 0) (b.getD i 0) (4294967296^i)
  have a4:4294967296*d'*4294967296^i=d'*(4294967296^i*4294967296):=by rw[mul_comm 4294967296 d',mul_assoc,mul_comm 4294967296]
  omega
 ·obtain rfl:i=a.length:=om
  refine bG hw (by unfold SM;omega) ?_
  have e:val out=val a-val b:=by
   have a1:=fl hw (i:=a.length) om
   have a2:=bO ha
   have a3:=bb ha a.length
   have a4:=bb hw a.length
   have a5:=bb hb a.length
   have a6:=bO hb
   rcases lt_or_ge a.length b.length with h | h
   ·have hm1:=pd hb (Nat.le_of_lt h)
    rcases (by omega:c=0\/c=1) with rfl | rfl
    ·
     have hz:pv b b.length=pv b a.length:=by
      refine qT hb (Nat.le_of_lt h) ?_
      omega
     omega
    ·omega
   ·have hm1:=fl hb h
    rcases (by omega:c=0\/c=1) with rfl | rfl<;>omega
  rw[e]
  exact h
theorem fh {a b:List Int} {Q:List Int->Prop} (ha:az a) (hb:az b) (la:a.length+b.length<=1099511627776) (h:Q (lim (val a*val b))):cO a b Q:=by
 obtain⟨N,hN⟩:∃N,N=a.length+b.length:=⟨_,rfl⟩
 have hNi:(a.length:Int)+(b.length:Int)=(N:Int):=om
 unfold cO
 rw[hNi]
 refine⟨zRg,i_ om om,?_⟩
 refine⟨λy=>∃i:Nat,y.1=i/\i<=a.length/\y.2.length=N/\az y.2/\(∀p,i+b.length<=p->y.2.getD p 0=0)/\pv y.2 N=pv a i*pv b b.length,λy=>a.length-y.1.toNat,
  ⟨0,rfl,om,by simp[aQ],az.rep _,λp hp=>by rw[tR,List.getD_eq_getElem?_getD,List.getElem?_replicate];split<;>rfl,by rw[tR,qg];simp[pv]⟩,?_⟩
 rintro⟨x,out⟩ ⟨i,hx,hi,hlen,hw,hz,hpv⟩
 simp only at hx hi hlen hw hz hpv
 subst hx
 have hxi:=ha i
 refine condT (λhlt=>⟨⟨om,hlt⟩,?_⟩) (λhge=>?_)
 ·refine⟨λy=>∃k:Nat,y.2.1=k/\k<=b.length/\y.2.2.length=N/\az y.2.2/\(∀p,i+b.length<=p->y.2.2.getD p 0=0)/\0<=y.1/\y.1<4294967296/\
    pv y.2.2 N+y.1*4294967296^(i+k)=pv a i*pv b b.length+a.getD i 0*4294967296^i*pv b k,λy=>b.length-y.2.1.toNat,
   ⟨0,rfl,om,hlen,hw,hz,om,om,by simp[pv,hpv]⟩,?_⟩
  clear hpv hz hw hlen h
  rintro⟨c,x1,out2⟩ ⟨k,hx,hk,hlen,hw,hz,hc0,hc1,hpv⟩
  simp only at hx hk hlen hw hz hc0 hc1 hpv
  subst hx
  have hy:=hb k
  have ho:=hw (i+k)
  obtain⟨q1,q2⟩:=zC hxi hy
  have eik:(i:Int)+(k:Int)=((i+k:Nat):Int):=om
  have eib:(i:Int)+(b.length:Int)=((i+b.length:Nat):Int):=om
  refine condT (λhlt2=>⟨⟨om,hlt2⟩,zRg,⟨om,om⟩,gt ⟨zRg,⟨om,om⟩,zRg,?_,by dsimp only;omega⟩⟩) (λhge2=>⟨zRg,⟨om,om⟩,zRg,?_,by dsimp only;omega⟩)
  ·simp only[eik,fU,fG]
   simp (disch:=omega) only[wrap_u64_id,wrap_u32]
   have e32:∀z:Int,z / 2^toNat 32=z / 4294967296:=λ_=>rfl
   simp only[e32]
   generalize hv:c+(a.getD i 0*b.getD k 0+out2.getD (i+k) 0)=v
   refine⟨k+1,om,om,by simp[hlen],hw.set _ om om,λp hp=>?_,by show 0<=v / 4294967296;omega,by show v / 4294967296<4294967296;omega,?_⟩
   ·show(out2.set (i+k) _).getD p 0=0
    rw[bU om];exact hz p hp
   ·show pv (out2.set (i+k) (v % 4294967296)) N+v / 4294967296*4294967296^(i+(k+1))=_
    rw[gk om N om,pv,<-Nat.add_assoc,pow_succ,mul_add,<-Int.add_assoc,<-hpv]
    have s1:=nq v (4294967296^(i+k))
    have s2:=sub_mul (v % 4294967296) (out2.getD (i+k) 0) (4294967296^(i+k))
    have s3:v*4294967296^(i+k)=c*4294967296^(i+k)+(a.getD i 0*4294967296^i*(b.getD k 0*4294967296^k)+out2.getD (i+k) 0*4294967296^(i+k)):=by
     rw[<-hv,add_mul,add_mul,pow_add]
     congr 2
     rw[mul_assoc,mul_assoc,mul_left_comm (b.getD k 0)]
    omega
  ·obtain rfl:k=b.length:=om
   simp only[eib,fG,wrap_u32]
   have hcm:c % 4294967296=c:=om
   rw[hcm]
   refine⟨i+1,om,om,by simp[hlen],hw.set _ om om,λp hp=>?_,?_⟩
   ·show(out2.set (i+b.length) c).getD p 0=0
    rw[bU om];exact hz p om
   ·show pv (out2.set (i+b.length) c) N=pv a (i+1)*_
    rw[gk om N om,hz (i+b.length) om,pv,add_mul,sub_zero]
    exact hpv
 ·obtain rfl:i=a.length:=om
  refine bG hw (by unfold SM;omega) ?_
  have e:val out=val a*val b:=by
   have a1:=fl hw (i:=N) om
   have a2:=bO ha
   have a3:=bO hb
   have:((val a*val b:Nat):Int)=(val a:Int)*(val b:Int):=by simp
   have:(val out:Int)=((val a*val b:Nat):Int):=by rw[this,a1,hpv,a2,a3]
   omega
  rw[e]
  exact h
theorem F3 {x y i:Nat} (hx:x<2^i) (hy:2^i ∣ y):y ||| x=y+x:=by
 obtain⟨z,rfl⟩:=hy
 rw[Nat.mul_comm,<-Nat.shiftLeft_eq,Nat.shiftLeft_add_eq_or_of_lt hx]
theorem uQ {x y:Int} (i:Nat) (hx:0<=x) (hxi:x<2^i) (hy:0<=y) (hyi:y % 2^i=0) (hs:y+x<18446744073709551616):bits .or .u64 y x=y+x:=by
 obtain⟨m,rfl⟩:=eq_ofNat_of_zero_le hx
 obtain⟨n,rfl⟩:=eq_ofNat_of_zero_le hy
 have h1:m<2^i:=by exact_mod_cast hxi
 have h2:2^i ∣ n:=by
  have:(n:Int) % ((2^i:Nat):Int)=0:=by simpa using hyi
  exact Nat.dvd_of_mod_eq_zero om
 have h3:=F3 h1 h2
 show IntKind.u64.wrap (((BitVec.ofInt 64 (n:Int)) ||| (BitVec.ofInt 64 (m:Int))).toNat:Int)=_
 rw[oq,BitVec.toNat_or,BitVec.toNat_ofInt,BitVec.toNat_ofInt]
 have e1:((n:Int) % ((2^64:Nat):Int)).toNat=n:=om
 have e2:((m:Int) % ((2^64:Nat):Int)).toNat=m:=om
 rw[e1,e2,h3]
 omega
theorem xX {x y:Int} (i:Nat) (hx:0<=x) (hxi:x<2^i) (hy:0<=y) (hyi:y % 2^i=0) (hs:y+x<18446744073709551616):bits .or .u64 x y=y+x:=by
 rw[<-uQ i hx hxi hy hyi hs]
 show IntKind.u64.wrap (((BitVec.ofInt 64 x) ||| (BitVec.ofInt 64 y)).toNat:Int)=IntKind.u64.wrap (((BitVec.ofInt 64 y) ||| (BitVec.ofInt 64 x)).toNat:Int)
 rw[BitVec.or_comm]
theorem HL {x y:Int} (i:Nat) (hx:0<=x) (hxi:x<2^i) (hy:0<=y) (hyi:y % 2^i=0) (hs:y+x<4294967296):bits .or .u32 x y=y+x:=by
 obtain⟨m,rfl⟩:=eq_ofNat_of_zero_le hx
 obtain⟨n,rfl⟩:=eq_ofNat_of_zero_le hy
 have h1:m<2^i:=by exact_mod_cast hxi
 have h2:2^i ∣ n:=by
  have:(n:Int) % ((2^i:Nat):Int)=0:=by simpa using hyi
  exact Nat.dvd_of_mod_eq_zero om
 have h3:=F3 h1 h2
 show IntKind.u32.wrap (((BitVec.ofInt 32 (m:Int)) ||| (BitVec.ofInt 32 (n:Int))).toNat:Int)=_
 rw[wrap_u32,BitVec.toNat_or,BitVec.toNat_ofInt,BitVec.toNat_ofInt]
 have e1:((n:Int) % ((2^32:Nat):Int)).toNat=n:=om
 have e2:((m:Int) % ((2^32:Nat):Int)).toNat=m:=om
 rw[e1,e2,Nat.or_comm,h3]
 omega
def bB (n:Nat):Nat:=if n=0 then 0 else n.log2+1
theorem xp:bB 0=0:=rfl
theorem pn {n:Nat}:n<2^bB n:=by
 unfold bB
 split
 ·omega
 ·exact Nat.lt_log2_self
theorem nP {n:Nat} (h:n≠0):2^(bB n-1)<=n:=by
 unfold bB
 rw[if_neg h]
 exact Nat.log2_self_le h
theorem sw {n k:Nat} (h:n<2^k) (h':k≠0->2^(k-1)<=n):bB n=k:=by
 by_cases h0:n=0
 ·subst h0
  cases k with
  | zero=>rfl
  | succ k=>have:=h' om;have:0<2^k:=pow_pos om;simp at *
 ·have a:=pn (n:=n)
  have b:=nP h0
  have hk:k≠0:=by rintro rfl;simp at h;omega
  have c:=h' hk
  have hb:bB n≠0:=by unfold bB;rw[if_neg h0];omega
  rcases Nat.lt_trichotomy (bB n) k with hlt | he | hgt
  ·have:2^bB n<=2^(k-1):=pow_le_pow_right om om
   omega
  ·exact he
  ·have:2^k<=2^(bB n-1):=pow_le_pow_right om om
   omega
theorem vV {n k:Nat} (h:2^k<=n):bB n=bB (n / 2^k)+k:=by
 have hp:0<2^k:=pow_pos om
 have hq:n / 2^k≠0:=by have:=Nat.div_pos h hp;omega
 have a:=pn (n:=n / 2^k)
 have b:=nP hq
 have hb:bB (n / 2^k)≠0:=by unfold bB;rw[if_neg hq];omega
 refine sw ?_ (λ_=>?_)
 ·rw[Nat.pow_add]
  rw[Nat.div_lt_iff_lt_mul hp] at a
  exact a
 ·have e:bB (n / 2^k)+k-1=(bB (n / 2^k)-1)+k:=om
  rw[e,Nat.pow_add]
  rw[Nat.le_div_iff_mul_le hp] at b
  exact b
theorem Hp:(range 256).all (λk=>qv gE k == (bB k:Int))=true:=by kernel_rfl
theorem Ru {k:Nat} (h:k<256):qv gE k=(bB k:Int):=by
 have:=List.all_eq_true.1 Hp k (by simpa using h)
 simpa using this
theorem Fw:gE.size=256:=by kernel_rfl
theorem Cd {x:Nat} {Q:Int->Prop} (hx:x<4294967296) (h:Q (bB x)):fX (x:Int) Q:=by
 refine⟨λy=>∃z k:Nat,y=((z:Int),(k:Int))/\z<65536/\k<=16/\bB x=bB z+k,?_,?_⟩
 ·refine condT (λhc=>⟨x / 65536,16,?_,om,om,?_⟩) (λhc=>⟨x,0,rfl,om,om,rfl⟩)
  ·show((x:Int) / 65536,(16:Int))=_
   rw[Prod.mk.injEq];exact⟨om,rfl⟩
  ·exact vV (k:=16) om
 ·rintro _ ⟨z,k,rfl,hz,hk,hb⟩
  refine⟨λy=>∃z k:Nat,y=((z:Int),(k:Int))/\z<256/\k<=24/\bB x=bB z+k,?_,?_⟩
  ·refine condT (λhc=>⟨zRg,z / 256,k+8,?_,om,om,?_⟩) (λhc=>⟨z,k,rfl,om,om,hb⟩)
   ·show((z:Int) / 256,(k:Int)+8)=_
    rw[Prod.mk.injEq];exact⟨om,om⟩
   ·have h8:=vV (n:=z) (k:=8) om
    have e:z / 2^8=z / 256:=rfl
    rw[e] at h8
    omega
  ·rintro _ ⟨z,k,rfl,hz,hk,hb⟩
   show(_/\_)
   have hw:IntKind.u8.wrap (z:Int)=z:=by rw[wrap_u8];omega
   have hz':(bB z:Int)<=8:=by
    have:bB z<=8:=by
     by_cases h0:z=0
     ·subst h0;simp[bB]
     ·have:=nP h0
      rcases lt_or_ge 8 (bB z) with h8 | h8
      ·have:2^8<=2^(bB z-1):=pow_le_pow_right om om
       omega
      ·exact h8
    omega
   rw[hw,Fw]
   have e:(toNat (z:Int))=z:=om
   rw[e,Ru hz,kX zRg]
   refine⟨⟨om,om⟩,zRg,gt ?_⟩
   have:(k:Int)+(bB z:Int)=((bB x:Nat):Int):=om
   rw[this]
   exact h
theorem po {x:Nat} (hx:x<4294967296):bB x<=32:=by
 by_cases h0:x=0
 ·subst h0;simp[bB]
 ·have:=nP h0
  rcases lt_or_ge 32 (bB x) with h8 | h8
  ·have:2^32<=2^(bB x-1):=pow_le_pow_right om om
   omega
  ·exact h8
theorem Sb {x:Nat} {Q:Int->Prop} (hx:x<4294967296) (h:Q ((32-bB x:Nat):Int)):eH (x:Int) Q:=by
 refine Cd hx ?_
 have h1:=po hx
 refine⟨zRg,?_⟩
 have:(32:Int)-(bB x:Int)=((32-bB x:Nat):Int):=om
 rw[this]
 exact h
theorem oX {n:Nat} (h:n<=32):(2:Int)^n*2^(32-n)=4294967296:=by
 rw[<-pow_add]
 have:n+(32-n)=32:=om
 rw[this];rfl
theorem ft (n:Nat):(0:Int)<2^n:=Int.pow_pos om
theorem oF {a:List Int} {n:Nat} {Q:List Int->Prop} (ha:az a) (la:a.length<=1099511627775) (hn:n<=32) (h:∀out,az out->out.length=a.length+1->val out=val a*2^n->Q out):eF a (n:Int) Q:=by
 have hL:(a.length:Int)+1=((a.length+1:Nat):Int):=om
 unfold eF
 rw[hL]
 have hs:=oX hn
 have hpp:=ft n
 have hqp:=ft (32-n)
 generalize hp:(2:Int)^n=p at *
 generalize (2:Int)^(32-n)=q at *
 have hple:p<=4294967296:=by
  have:p*1<=p*q:=mul_le_mul_of_nonneg_left om om
  omega
 have hdvd:p ∣ 4294967296:=⟨q,hs.symm⟩
 refine⟨zRg,i_ om om,λy=>∃i:Nat,y.1=i/\i<=a.length/\y.2.length=a.length+1/\az y.2/\(∀k,i<k->y.2.getD k 0=0)/\y.2.getD i 0<p/\pv y.2 (i+1)=pv a i*p,λy=>a.length-y.1.toNat,
  ⟨0,rfl,om,by simp[aQ],az.rep _,λk hk=>?_,?_,?_⟩,?_⟩
 ·show(replicate (a.length+1) (0:Int)).getD k 0=0
  rw[List.getD_eq_getElem?_getD,List.getElem?_replicate];split<;>rfl
 ·show(replicate (a.length+1) (0:Int)).getD 0 0<p
  simp;omega
 ·show pv (replicate (a.length+1) (0:Int)) 1=_
  rw[qg];simp[pv]
 rintro⟨x,out⟩ ⟨i,hx,hi,hlen,hw,hz,hlow,hpv⟩
 simp only at hx hi hlen hw hz hlow hpv
 subst hx
 have hxi:=ha i
 have hoi:=hw i
 refine condT (λhlt=>⟨⟨om,hlt⟩,⟨om,om⟩,?_⟩) (λhge=>?_)
 ·rw[fU,toNat_natCast,hp]
  have hy0:0<=a.getD i 0*p:=mul_nonneg hxi.1 om
  have hy1:a.getD i 0*p<4294967296*p:=Int.mul_lt_mul_of_pos_right hxi.2 hpp
  have hy2:4294967296*p<=4294967296*4294967296:=mul_le_mul_of_nonneg_left hple om
  rw[wrap_u64_id hxi.1 om,wrap_u64_id hy0 om]
  refine gt ?_
  have hdy:p ∣ a.getD i 0*p:=⟨_,mul_comm _ _⟩
  have hhi:a.getD i 0*p / 4294967296<p:=by
   rw[Int.ediv_lt_iff_lt_mul om]
   rw[mul_comm p];exact hy1
  generalize hv:a.getD i 0*p=y at *
  refine⟨⟨om,om⟩,⟨om,om⟩,zRg,⟨om,om⟩,zRg,?_,by dsimp only;omega⟩
  have e1:(i:Int)+1=((i+1:Nat):Int):=om
  have e32:y / 2^toNat 32=y / 4294967296:=rfl
  have hm:(y % 4294967296) % p=0:=by rw[Int.emod_emod_of_dvd _ hdvd];exact Int.emod_eq_zero_of_dvd hdy
  have hh0:0<=y / 4294967296:=om
  have hor:bits .or .u32 (out.getD i 0) (y % 4294967296)=y % 4294967296+out.getD i 0:=by
   refine HL n hoi.1 (by rw[hp];exact hlow) om (by rw[hp];exact hm) ?_
   obtain⟨z,hz'⟩:=Int.dvd_of_emod_eq_zero hm
   have:z<q:=by
    rcases lt_or_le z q with h1 | h1
    ·exact h1
    ·have:p*q<=p*z:=mul_le_mul_of_nonneg_left h1 om
     omega
   have:p*z<=p*(q-1):=mul_le_mul_of_nonneg_left om om
   rw[Int.mul_sub,hs] at this
   omega
  rw[e1,fU,fG,fG,e32,wrap_u32,wrap_u32,hor]
  have hlo:y % 4294967296+out.getD i 0<4294967296:=by
   obtain⟨z,hz'⟩:=Int.dvd_of_emod_eq_zero hm
   have:z<q:=by
    rcases lt_or_le z q with h1 | h1
    ·exact h1
    ·have:p*q<=p*z:=mul_le_mul_of_nonneg_left h1 om
     omega
   have:p*z<=p*(q-1):=mul_le_mul_of_nonneg_left om om
   rw[Int.mul_sub,hs] at this
   omega
  have hmod:y / 4294967296 % 4294967296=y / 4294967296:=om
  rw[hmod]
  refine⟨i+1,rfl,om,by simp[hlen],(hw.set _ om om).set _ hh0 om,λk hk=>?_,?_,?_⟩
  ·show((out.set i _).set (i+1) _).getD k 0=0
   rw[bU om,bU om]
   exact hz k om
  ·show((out.set i _).set (i+1) _).getD (i+1) 0<p
   rw[jA (by simp;omega)]
   exact hhi
  ·show pv ((out.set i _).set (i+1) _) (i+1+1)=_
   rw[uK (by simp;omega),uK om,pv,pow_succ]
   rw[pv] at hpv
   have s4:=add_mul (pv a i) (a.getD i 0*4294967296^i) p
   have s1:=nq y (4294967296^i)
   have s2:=add_mul (y % 4294967296) (out.getD i 0) (4294967296^i)
   have s3:a.getD i 0*4294967296^i*p=y*4294967296^i:=by rw[<-hv,mul_assoc,mul_comm _ p,<-mul_assoc]
   omega
 ·obtain rfl:i=a.length:=om
  refine h out hw hlen ?_
  have a1:=bO hw
  have a2:=bO ha
  rw[hlen,hpv,<-a2] at a1
  have:((val a*2^n:Nat):Int)=(val a:Int)*p:=by rw[<-hp];simp
  have:(val out:Int)=((val a*2^n:Nat):Int):=by rw[this];exact a1
  omega
theorem tD {a:List Int} {n:Nat} {Q:List Int->Prop} (ha:az a) (la:SM a) (hn:n<=32) (h:∀out,az out->out.length=a.length->val out=val a / 2^n->Q out):g_ a (n:Int) Q:=by
 unfold SM at la
 unfold g_
 have hs:=oX hn
 have hpp:=ft n
 have hqp:=ft (32-n)
 generalize hp:(2:Int)^n=p at *
 generalize (2:Int)^(32-n)=q at *
 have hdvd:p ∣ 4294967296:=⟨q,hs.symm⟩
 refine⟨i_ om la,λy=>∃i:Nat,y.1=i/\i<=a.length/\y.2.length=a.length/\az y.2/\pv y.2 i*p=pv a i-a.getD 0 0 % p+(a.getD i 0 % p)*4294967296^i,λy=>a.length-y.1.toNat,
  ⟨0,rfl,om,by simp[aQ],az.rep _,by simp[pv];omega⟩,?_⟩
 rintro⟨x,out⟩ ⟨i,hx,hi,hlen,hw,hpv⟩
 simp only at hx hi hlen hw hpv
 subst hx
 have h0:=ha i
 have h1:=ha (i+1)
 have e1:(i:Int)+1=((i+1:Nat):Int):=om
 refine condT (λhlt=>dB ha ⟨zRg,?_⟩) (λhge=>?_)
 ·rw[e1]
  refine dB ha ⟨⟨om,om⟩,⟨om,om⟩,zRg,?_,by dsimp only;omega⟩
  have e32:(2:Int)^toNat 32=4294967296:=rfl
  rw[e32,toNat_natCast,hp,wrap_u64_id om om,xX 32 h0.1 h0.2 om (by show _ % 4294967296=0;omega) om,fG,wrap_u32]
  generalize ha0:a.getD i 0=x0 at *
  generalize ha1:a.getD (i+1) 0=x1 at *
  have hx0:0<=x0 / p:=ediv_nonneg h0.1 om
  have hx0':x0 / p<q:=by rw[Int.ediv_lt_iff_lt_mul hpp,mul_comm,hs];exact h0.2
  have hm0:0<=x1 % p:=emod_nonneg _ om
  have hm1:x1 % p<p:=emod_lt_of_pos _ hpp
  have hdv:(x1*4294967296+x0) / p=x1*q+x0 / p:=by
   rw[<-hs,mul_left_comm,add_comm,Int.add_mul_ediv_left _ _ om,add_comm]
  have hk:(x1*4294967296+x0) / p % 4294967296=(x1 % p)*q+x0 / p:=by
   have d1:x1=p*(x1 / p)+x1 % p:=(mul_ediv_add_emod x1 p).symm
   have d2:x1*q+x0 / p=(x1 % p)*q+x0 / p+4294967296*(x1 / p):=by
    have:x1*q=(p*(x1 / p)+x1 % p)*q:=by rw[<-d1]
    rw[this,add_mul,mul_right_comm,hs];omega
   rw[hdv,d2,Int.add_mul_emod_self_left]
   refine Int.emod_eq_of_lt ?_ ?_
   ·have:=mul_nonneg hm0 (le_of_lt hqp);omega
   ·have:(x1 % p)*q<=(p-1)*q:=mul_le_mul_of_nonneg_right om om
    rw[sub_mul,hs] at this;omega
  rw[hk]
  have hq0:=mul_nonneg hm0 (le_of_lt hqp)
  have hq1:(x1 % p)*q<=(p-1)*q:=mul_le_mul_of_nonneg_right om om
  rw[sub_mul,hs] at hq1
  refine⟨i+1,rfl,om,by simp[hlen],hw.set _ om om,?_⟩
  show pv (out.set i (x1 % p*q+x0 / p)) (i+1)*p=pv a (i+1)-_+_
  rw[uK om,pv,add_mul,hpv,ha0,ha1,pow_succ]
  have d0:x0=p*(x0 / p)+x0 % p:=(mul_ediv_add_emod x0 p).symm
  have s1:(x1 % p*q+x0 / p)*4294967296^i*p=x1 % p*(4294967296^i*4294967296)+(p*(x0 / p))*4294967296^i:=by
   rw[add_mul,add_mul]
   congr 1
   ·rw[<-hs,mul_assoc,mul_assoc,mul_left_comm q,mul_comm q p]
   ·rw[mul_right_comm,mul_comm (x0 / p)]
  have s2:x0*4294967296^i=(p*(x0 / p))*4294967296^i+x0 % p*4294967296^i:=by
   rw[<-add_mul,<-d0]
  omega
 ·obtain rfl:i=a.length:=om
  refine h out hw hlen ?_
  have a1:=bO hw
  have a2:=bO ha
  rw[hlen] at a1
  rw[pk (Nat.le_refl a.length),Int.zero_emod,Int.zero_mul,<-a2,<-a1] at hpv
  have hr0:0<=a.getD 0 0 % p:=emod_nonneg _ om
  have hr1:a.getD 0 0 % p<p:=emod_lt_of_pos _ hpp
  have e:(val a:Int) / p=val out:=by
   have:(val a:Int)=p*val out+a.getD 0 0 % p:=by rw[mul_comm];omega
   rw[this,add_comm,Int.add_mul_ediv_left _ _ om,Int.ediv_eq_zero_of_lt hr0 hr1];omega
  have e2:((val a / 2^n:Nat):Int)=(val a:Int) / p:=by rw[<-hp];simp
  omega
theorem nX {a:List Int} {b:Int} {Q:List Int->Int->Prop} (ha:az a) (la:SM a) (hb0:0<b) (hb1:b<4294967296) (h:Q (lim (val a / b.toNat)) ((val a % b.toNat:Nat):Int)):gZ a b Q:=by
 unfold SM at la
 unfold gZ
 rw[wrap_u64_id om om]
 refine⟨i_ om la,zRg,λy=>∃j:Nat,y.2.1=(j:Int)-1/\j<=a.length/\y.2.2.length=a.length/\az y.2.2/\(∀k,k<j->y.2.2.getD k 0=0)/\0<=y.1/\y.1<b/\pv y.2.2 a.length*b+y.1*4294967296^j=pv a a.length-pv a j,
  λy=>(y.2.1+1).toNat,⟨a.length,rfl,om,by simp[aQ],az.rep _,λk hk=>?_,om,hb0,?_⟩,?_⟩
 ·show(replicate a.length (0:Int)).getD k 0=0
  rw[List.getD_eq_getElem?_getD,List.getElem?_replicate];split<;>rfl
 ·show pv (replicate a.length (0:Int)) a.length*b+0*_=_
  rw[qg];simp
 rintro⟨r,x,out⟩ ⟨j,hx,hj,hlen,hw,hz,hr0,hr1,hpv⟩
 simp only at hx hj hlen hw hz hr0 hr1 hpv
 subst hx
 have hj1:((j:Int)-1).toNat=j-1:=om
 refine condT (λhc=>⟨⟨om,om⟩,?_⟩) (λhc=>?_)
 ·obtain⟨i,rfl⟩:∃i,j=i+1:=⟨j-1,om⟩
  have ei:((i+1:Nat):Int)-1=(i:Int):=om
  have h0:=ha i
  have e32:(2:Int)^toNat 32=4294967296:=rfl
  rw[ei,fU,e32,wrap_u64_id om om,wrap_u64_id om om,uQ 32 h0.1 h0.2 om (by show _ % 4294967296=0;omega) om]
  refine gt ⟨om,⟨om,om⟩,om,zRg,?_,by dsimp only;omega⟩
  generalize hv:r*4294967296+a.getD i 0=v
  have hv0:0<=v:=om
  rw[Int.tdiv_eq_ediv_of_nonneg hv0,Int.tmod_eq_emod_of_nonneg hv0,fG]
  have hq0:0<=v / b:=ediv_nonneg hv0 om
  have hq1:v / b<4294967296:=by
   rw[Int.ediv_lt_iff_lt_mul hb0,<-hv]
   have:r*4294967296<=(b-1)*4294967296:=mul_le_mul_of_nonneg_right om om
   omega
  rw[wrap_u64_id hq0 om,wrap_u32]
  have hqm:v / b % 4294967296=v / b:=om
  rw[hqm]
  refine⟨i,rfl,om,by simp[hlen],hw.set _ hq0 hq1,λk hk=>?_,emod_nonneg _ om,emod_lt_of_pos _ hb0,?_⟩
  ·show(out.set i _).getD k 0=0
   rw[bU om];exact hz k om
  ·show pv (out.set i (v / b)) a.length*b+v % b*_=_
   rw[gk om a.length om,hz i om,sub_zero,add_mul]
   rw[pv,pow_succ] at hpv
   have d0:v=b*(v / b)+v % b:=(mul_ediv_add_emod v b).symm
   have s1:v / b*4294967296^i*b+v % b*4294967296^i=v*4294967296^i:=by
    rw[mul_right_comm,<-add_mul,mul_comm (v / b),<-d0]
   have s2:v*4294967296^i=r*(4294967296^i*4294967296)+a.getD i 0*4294967296^i:=by
    rw[<-hv,add_mul,mul_assoc,mul_comm 4294967296]
   omega
 ·obtain rfl:j=0:=om
  refine bG hw (by unfold SM;omega) ?_
  have a1:=bO hw
  have a2:=bO ha
  rw[hlen] at a1
  simp only[pv,Int.pow_zero,Int.mul_one,sub_zero] at hpv
  rw[<-a1,<-a2] at hpv
  obtain⟨c,rfl⟩:∃c:Nat,b=c:=⟨b.toNat,om⟩
  rw[toNat_natCast] at h
  have hq:val a / c=val out:=by
   have:val a=c*val out+r.toNat:=by
    have:((val a:Nat):Int)=((c*val out+r.toNat:Nat):Int):=by
     rw[natCast_add,natCast_mul,mul_comm];omega
    omega
   rw[this,Nat.add_comm,Nat.add_mul_div_left _ _ om,Nat.div_eq_of_lt om];omega
  have hm:val a % c=r.toNat:=by
   have:val a=c*val out+r.toNat:=by
    have:((val a:Nat):Int)=((c*val out+r.toNat:Nat):Int):=by
     rw[natCast_add,natCast_mul,mul_comm];omega
    omega
   rw[this,Nat.add_comm,Nat.add_mul_mod_self_left,mod_eq_of_lt om]
  rw[hq,hm] at h
  rw[wrap_u32]
  have e:r % 4294967296=((r.toNat:Nat):Int):=om
  rw[e]
  exact h
theorem rb {n:Int} {Q:List Int->Prop} (h1:n<=9223372036854775807) (h:Q (lim n.toNat)):kA n Q:=by
 refine condT (λhc=>?_) (λhc=>?_)
 ·have:n.toNat=0:=om
  rw[this,cU] at h;exact h
 ·have e32:(2:Int)^toNat 32=4294967296:=rfl
  rw[e32,wrap_u32,wrap_u32]
  have hw:az [n % 4294967296,n / 4294967296 % 4294967296]:=(az.nil.cons om om).cons om om
  refine bG hw (by simp[SM]) ?_
  have hv:val [n % 4294967296,n / 4294967296 % 4294967296]=n.toNat:=by
   rw[jD hw,jD hw.tail,nf];omega
  rw[hv];exact h
theorem Dn {a:List Int} (ha:az a) {i:Nat} (hz:∀k,i<k->k<a.length->a.getD k 0=0) (hi:i<a.length) (hn:a.getD i 0≠0):(bB (val a):Int)=32*i+bB (a.getD i 0).toNat:=by
 have h0:=ha i
 have a1:=bO ha
 rw[nD (j:=i+1) a.length hi (λk h1 h2=>hz k om h2),pv] at a1
 obtain⟨b1,b2⟩:=bb ha i
 obtain⟨x,hx⟩:∃x:Nat,a.getD i 0=x:=⟨(a.getD i 0).toNat,om⟩
 rw[hx] at a1 hn h0 ⊢
 rw[toNat_natCast]
 have hx0:x≠0:=om
 have c1:=pn (n:=x)
 have c2:=nP hx0
 have hb:bB x≠0:=by unfold bB;rw[if_neg hx0];omega
 have ew:((4294967296^i:Nat):Int)=(4294967296:Int)^i:=by simp
 have e1:val a=(pv a i).toNat+x*4294967296^i:=by
  have:(val a:Int)=(((pv a i).toNat+x*4294967296^i:Nat):Int):=by
   rw[a1,natCast_add,natCast_mul,ew];omega
  omega
 have hlt:(pv a i).toNat<4294967296^i:=om
 have hpw:(4294967296:Nat)^i=2^(32*i):=by rw[Nat.pow_mul]
 have:bB (val a)=32*i+bB x:=by
  refine sw ?_ (λ_=>?_)
  ·rw[e1,Nat.pow_add,<-hpw]
   have:(x+1)*4294967296^i<=2^bB x*4294967296^i:=Nat.mul_le_mul_right _ c1
   rw[Nat.add_mul,Nat.mul_comm (2^bB x)] at this
   omega
  ·have e:32*i+bB x-1=32*i+(bB x-1):=om
   rw[e1,e,Nat.pow_add,<-hpw]
   have:2^(bB x-1)*4294967296^i<=x*4294967296^i:=Nat.mul_le_mul_right _ c2
   rw[Nat.mul_comm (2^(bB x-1))] at this
   omega
 omega
theorem vg {a:List Int} {Q:Int->Prop} (ha:az a) (la:SM a) (h:Q (bB (val a))):lw a Q:=by
 unfold SM at la
 refine⟨zRg,λx=>∃j:Nat,x=(j:Int)-1/\j<=a.length/\∀k,j<=k->k<a.length->a.getD k 0=0,λx=>(x+1).toNat,⟨a.length,rfl,om,λk h1 h2=>om⟩,?_⟩
 rintro _ ⟨j,rfl,hj,hz⟩
 refine condT (λhc=>⟨⟨om,om⟩,?_⟩) (λhc=>?_)
 ·obtain⟨i,rfl⟩:∃i,j=i+1:=⟨j-1,om⟩
  have ei:((i+1:Nat):Int)-1=(i:Int):=om
  rw[ei,fU]
  have h0:=ha i
  refine ga (λhn=>⟨zRg,⟨om,om⟩,?_⟩) (λhe=>⟨zRg,⟨i,rfl,om,λk h1 h2=>?_⟩,by dsimp only;omega⟩)
  ·have hb:=Dn ha (λk h1 h2=>hz k om h2) om hn
   obtain⟨x,hx⟩:∃x:Nat,a.getD i 0=x:=⟨(a.getD i 0).toNat,om⟩
   rw[hx] at hb ⊢
   rw[toNat_natCast] at hb
   have h32:=po (x:=x) om
   refine Cd om ⟨zRg,?_⟩
   rw[<-hb];exact h
  ·by_cases hk:k=i
   ·subst hk;exact he
   ·exact hz k om h2
 ·obtain rfl:j=0:=om
  have:val a=0:=by
   have a1:=bO ha
   rw[nD (j:=0) a.length om (λk h1 h2=>hz k h1 h2)] at a1
   simp only[pv] at a1;omega
  rw[this,xp] at h
  exact h
theorem fR {l:List Int} {j i:Nat}:(l.drop j).getD i 0=l.getD (j+i) 0:=by
 rw[List.getD_eq_getElem?_getD,List.getD_eq_getElem?_getD,List.getElem?_drop]
theorem sW {l:List Int} {o i:Nat} {x:Int} (h:o+i<l.length):pv ((l.set (o+i) x).drop o) (i+1)=pv (l.drop o) i+x*4294967296^i:=by
 rw[pv,fR,jA h]
 congr 1
 exact jL i (λk hk=>by rw[fR,fR,bU om])
theorem ve {u v:List Int} {o n:Nat} {g:Int} {Q:List Int->Bool->Prop} (hu:az u) (hv:az v) (lu:SM u) (ho:o+n<=u.length) (hn:v.length<n) (hg0:0<=g) (hg1:g<4294967296)
  (h:∀(w:List Int) (b:Int),az w->w.length=u.length->(∀k,k<o\/o+n<=k->w.getD k 0=u.getD k 0)->(b=0\/b=1)->pv (w.drop o) n=pv (u.drop o) n-g*val v+b*4294967296^n->Q w (b == 1)) :
  lq u o n v g Q:=by
 unfold SM at lu
 refine⟨λy=>∃i:Nat,y.2.2.1=i/\i<=n/\y.2.2.2.length=u.length/\az y.2.2.2/\(∀k,k<o\/o+i<=k->y.2.2.2.getD k 0=u.getD k 0)/\0<=y.1/\y.1<4294967296/\0<=y.2.1/\y.2.1<=1/\0<=g*pv v i-y.1*4294967296^i/\g*pv v i-y.1*4294967296^i<4294967296^i/\
   pv (y.2.2.2.drop o) i=pv (u.drop o) i-(g*pv v i-y.1*4294967296^i)+y.2.1*4294967296^i,λy=>n-y.2.2.1.toNat,
  ⟨0,rfl,om,rfl,hu,λ_ _=>rfl,le_refl 0,by show(0:Int)<4294967296;omega,le_refl 0,by show(0:Int)<=1;omega,by simp[pv],by simp[pv],by simp[pv]⟩,?_⟩
 rintro⟨c,b,x,w⟩ ⟨i,hx,hi,hlen,hw,hz,hc0,hc1,hb0,hb1,hl0,hl1,hpv⟩
 simp only at hx hi hlen hw hz hc0 hc1 hb0 hb1 hl0 hl1 hpv
 subst hx
 have hvi:=hv i
 have hwi:=hw (o+i)
 have eoi:(o:Int)+(i:Int)=((o+i:Nat):Int):=om
 refine condT (λhlt=>dB hv ?_) (λhge=>?_)
 ·have hm0:0<=g*v.getD i 0:=mul_nonneg hg0 hvi.1
  have hm1:g*v.getD i 0<=4294967295*4294967295:=mul_le_mul om om hvi.1 om
  rw[wrap_u64_id hm0 om,wrap_u64_id om om]
  refine gt ⟨⟨om,hlt⟩,om,?_⟩
  rw[eoi,fU]
  generalize hc':c+g*v.getD i 0=d at *
  rw[wrap_u64_id hwi.1 om,wrap_u32,wrap_u64_id (m:=d % 4294967296) om om]
  obtain⟨q1,q2,q3⟩:=uh (w.getD (o+i) 0) (d % 4294967296) b hwi om ⟨hb0,hb1⟩
  refine gt ⟨⟨om,hlt⟩,om,zRg,?_,by dsimp only;omega⟩
  generalize IntKind.u64.wrap (IntKind.u64.wrap (w.getD (o+i) 0-d % 4294967296)-b)=e at *
  have e63:e / 2^toNat 63=e / 9223372036854775808:=rfl
  have e32:d / 2^toNat 32=d / 4294967296:=rfl
  rw[e63,e32,fG,wrap_u32]
  have hP:=fq i
  have p1:pv (u.drop o) (i+1)=pv (u.drop o) i+w.getD (o+i) 0*4294967296^i:=by rw[pv,fR,hz (o+i) om]
  have p2:g*pv v (i+1)=g*pv v i+g*v.getD i 0*4294967296^i:=by rw[pv,mul_add,mul_assoc]
  have p3:=pow_succ (4294967296:Int) i
  have p0:=sW (l:=w) (o:=o) (i:=i) (x:=e % 4294967296) om
  generalize (4294967296:Int)^i=P at *
  have s1:=nq d P
  have s3:d*P=c*P+g*v.getD i 0*P:=by rw[<-hc',add_mul]
  have s5:d % 4294967296*P<=4294967295*P:=mul_le_mul_of_nonneg_right om om
  have s6:0<=d % 4294967296*P:=mul_nonneg om om
  refine⟨i+1,rfl,om,by simp[hlen],hw.set _ om om,λk hk=>?_,by show 0<=d / 4294967296;omega,by show d / 4294967296<4294967296;omega,q2,q3,?_,?_,?_⟩
  ·show(w.set (o+i) _).getD k 0=_
   rw[bU om];exact hz k om
  ·show 0<=g*pv v (i+1)-d / 4294967296*4294967296^(i+1)
   rw[p2,p3];omega
  ·show g*pv v (i+1)-d / 4294967296*4294967296^(i+1)<4294967296^(i+1)
   rw[p2,p3];omega
  ·show pv ((w.set (o+i) (e % 4294967296)).drop o) (i+1)=pv (u.drop o) (i+1)-(g*pv v (i+1)-d / 4294967296*4294967296^(i+1))+e / 9223372036854775808*4294967296^(i+1)
   rw[p0,hpv,p1,p2,p3]
   have s0:e % 4294967296=w.getD (o+i) 0-d % 4294967296-b+4294967296*(e / 9223372036854775808):=om
   rw[s0]
   generalize e / 9223372036854775808=b' at *
   have s4:(w.getD (o+i) 0-d % 4294967296-b+4294967296*b')*P=w.getD (o+i) 0*P-d % 4294967296*P-b*P+b'*(P*4294967296):=by
    rw[add_mul,sub_mul,sub_mul,mul_comm 4294967296 b',mul_assoc b',mul_comm 4294967296 P]
   rw[s4]
   generalize d / 4294967296=d' at *
   generalize d % 4294967296=d'' at *
   clear q1 q2 q3 s0 s4 s5 s6 hpv
   omega
 ·obtain rfl:i=n:=om
  refine h w b hw hlen hz om ?_
  have a1:=fl hv (i:=i) om
  have hc:c=0:=by
   have hv1:=fl hv (i:=i-1) om
   have hb':=(bb hv (i-1)).2
   have hw0:=bb hw 0
   obtain⟨m,rfl⟩:∃m,i=m+1:=⟨i-1,om⟩
   rw[Nat.add_sub_cancel] at hv1 hb'
   have hP:=fq m
   rw[pow_succ] at hpv
   have hgv:g*pv v (m+1)<=4294967295*(4294967296^m-1):=by
    rw[<-a1,hv1]
    exact mul_le_mul om om (bb hv m).1 om
   rw[pow_succ] at hl0
   generalize (4294967296:Int)^m=P at *
   rcases lt_or_le 0 c with hc | hc
   ·have:1*(P*4294967296)<=c*(P*4294967296):=mul_le_mul_of_nonneg_right om om
    omega
   ·omega
  subst hc
  rw[a1]
  rw[hpv];omega
theorem vf {u v:List Int} {o n:Nat} {Q:List Int->Prop} (hu:az u) (hv:az v) (lu:SM u) (ho:o+n<=u.length) (hn:v.length<=n)
  (h:∀(w:List Int) (c:Int),az w->w.length=u.length->(∀k,k<o\/o+n<=k->w.getD k 0=u.getD k 0)->(c=0\/c=1)->pv (w.drop o) n+c*4294967296^n=pv (u.drop o) n+val v->Q w) :
  lr u o n v Q:=by
 unfold SM at lu
 refine⟨λy=>∃i:Nat,y.2.1=i/\i<=n/\y.2.2.length=u.length/\az y.2.2/\(∀k,k<o\/o+i<=k->y.2.2.getD k 0=u.getD k 0)/\0<=y.1/\y.1<=1/\
   pv (y.2.2.drop o) i+y.1*4294967296^i=pv (u.drop o) i+pv v i,λy=>n-y.2.1.toNat,
  ⟨0,rfl,om,rfl,hu,λ_ _=>rfl,le_refl 0,by show(0:Int)<=1;omega,by simp[pv]⟩,?_⟩
 rintro⟨c,x,w⟩ ⟨i,hx,hi,hlen,hw,hz,hc0,hc1,hpv⟩
 simp only at hx hi hlen hw hz hc0 hc1 hpv
 subst hx
 have hvi:=hv i
 have hwi:=hw (o+i)
 have eoi:(o:Int)+(i:Int)=((o+i:Nat):Int):=om
 refine condT (λhlt=>⟨⟨om,hlt⟩,om,v.getD i 0,dB hv rfl,⟨om,hlt⟩,om,?_⟩) (λhge=>?_)
 ·rw[eoi,fU,wrap_u64_id hwi.1 om,wrap_u64_id (m:=w.getD (o+i) 0+v.getD i 0) om om,wrap_u64_id om om]
  refine gt ⟨zRg,?_,by dsimp only;omega⟩
  have e32:∀d:Int,d / 2^toNat 32=d / 4294967296:=λ_=>rfl
  rw[e32,fG,wrap_u32]
  generalize hd:c+(w.getD (o+i) 0+v.getD i 0)=d
  refine⟨i+1,rfl,om,by simp[hlen],hw.set _ om om,λk hk=>?_,by show 0<=d / 4294967296;omega,by show d / 4294967296<=1;omega,?_⟩
  ·show(w.set (o+i) _).getD k 0=_
   rw[bU om];exact hz k om
  ·show pv ((w.set (o+i) (d % 4294967296)).drop o) (i+1)+d / 4294967296*4294967296^(i+1)=pv (u.drop o) (i+1)+pv v (i+1)
   have p0:=sW (l:=w) (o:=o) (i:=i) (x:=d % 4294967296) om
   have p1:pv (u.drop o) (i+1)=pv (u.drop o) i+w.getD (o+i) 0*4294967296^i:=by rw[pv,fR,hz (o+i) om]
   have p2:pv v (i+1)=pv v i+v.getD i 0*4294967296^i:=by rw[pv]
   rw[p0,p1,p2,pow_succ]
   have s1:=nq d (4294967296^i)
   have s3:d*4294967296^i=c*4294967296^i+(w.getD (o+i) 0*4294967296^i+v.getD i 0*4294967296^i):=by rw[<-hd,add_mul,add_mul]
   omega
 ·obtain rfl:i=n:=om
  have a1:=fl hv (i:=i) om
  exact h w c hw hlen hz om (by rw[a1];exact hpv)
theorem jd {a b c:Nat} (h:a+b=c):(2:Int)^a*2^b=2^c:=by rw[<-pow_add,h]
theorem zK {V P B top nx vl head th pl g:Int} (hV:V=(top*4294967296+nx)*B+vl) (hvl:0<=vl) (hP:P=(head*4294967296+th)*B+pl) (hpl:pl<B) (hB:0<B) (hg:0<=g)
  (h:head*4294967296+th<g*(top*4294967296+nx)):P<g*V:=by
 have h1:(head*4294967296+th+1)*B<=g*(top*4294967296+nx)*B:=mul_le_mul_of_nonneg_right om om
 have h2:0<=g*vl:=mul_nonneg hg hvl
 rw[hV,mul_add,<-mul_assoc]
 rw[add_mul] at h1
 omega
theorem zL {V P B top nx vl head th pl g:Int} (hV:V=(top*4294967296+nx)*B+vl) (hvl0:0<=vl) (hvl:vl<B) (hP:P=(head*4294967296+th)*B+pl) (hpl:0<=pl) (hg0:0<=g) (hg:g<4294967296) (hVB:4294967296*B<=V)
  (h:g*(top*4294967296+nx)<=head*4294967296+th):(g-1)*V<=P:=by
 have h1:g*(top*4294967296+nx)*B<=(head*4294967296+th)*B:=mul_le_mul_of_nonneg_right h om
 have h2:g*vl<=4294967296*B:=mul_le_mul om om hvl0 om
 rw[sub_mul,hV,mul_add,<-mul_assoc]
 rw[<-hV]
 omega
theorem mP {l:List Int} {i:Nat}:∀n,pv l (i+n)=pv l i+pv (l.drop i) n*4294967296^i
 | 0=>by simp[pv]
 | n+1=>by
  rw[<-Nat.add_assoc,pv,mP n,pv,fR,add_mul,pow_add,mul_assoc (l.getD (i+n) 0),mul_comm (4294967296^n)]
  omega
theorem xV {l m:List Int} {i n:Nat} (h:∀k,k<i\/i+n<=k->l.getD k 0=m.getD k 0):∀M,i+n<=M->pv l M-pv m M=(pv (l.drop i) n-pv (m.drop i) n)*4294967296^i
 | 0,hM=>by
  have h1:i=0:=om
  have h2:n=0:=om
  subst h1 h2
  simp[pv]
 | M+1,hM=>by
  by_cases he:i+n=M+1
  ·rw[<-he,mP,mP,jL i (λk hk=>h k (.inl hk)),sub_mul];omega
  ·rw[pv,pv,h M (.inr om)]
   have:=xV h M om
   omega
theorem yd {n:Nat} (h:n≠0):(lim n).getD ((lim n).length-1) 0≠0:=by
 induction n using Nat.strongRecOn with
 | _ n ih=>
  rw[fJ om]
  simp only[List.length_cons,Nat.add_sub_cancel]
  by_cases h0:n / 4294967296=0
  ·rw[h0,cU];simp;omega
  ·have h1:=ih _ (Nat.div_lt_self om om) h0
   have h2:(lim (n / 4294967296)).length≠0:=by rw[fJ om];simp
   obtain⟨k,hk⟩:∃k,(lim (n / 4294967296)).length=k+1:=⟨_,(Nat.succ_pred_eq_of_ne_zero h2).symm⟩
   rw[hk] at h1 ⊢
   simpa using h1
theorem AZ {top nx hd1 hd2 th V P B vl pl:Int} {next3:Int->Prop} {G1 G2 G3:Prop} (hG1:G1) (hG2:G2) (hG3:G3) (htop0:2147483648<=top) (htop:top<4294967296) (hnx:0<=nx/\nx<4294967296) (h1:0<=hd1/\hd1<=top) (h2:0<=hd2/\hd2<4294967296) (h3:0<=th/\th<4294967296)
  (hV:V=(top*4294967296+nx)*B+vl) (hvl:0<=vl/\vl<B) (hP:P=((hd1*4294967296+hd2)*4294967296+th)*B+pl) (hpl:0<=pl/\pl<B) (hB:0<B) (hPV:P<V*4294967296)
  (hn:∀g,0<=g->g<4294967296->P<(g+1)*V->(g-1)*V<=P->next3 g) :
  aH (σ:=Int×Int) (IntKind.u64.wrap (Int.tdiv (hd1*4294967296+hd2) top),Int.tmod (hd1*4294967296+hd2) top) λ⟨guess2,rest⟩ next4=>
   bM (α:=Unit) (λnext5=>ac (decide (4294967296<=guess2)) (next5 ()) (G1/\G2/\G3/\ac (decide (bits .or .u64 (IntKind.u64.wrap (rest*4294967296)) th<IntKind.u64.wrap (guess2*nx))) (next5 ()) (next3 guess2)))
    λ_=>iS (IntKind.u64.wrap (rest+top)) λrest1=>ac (decide (4294967296<=rest1)) (next3 (IntKind.u64.wrap (guess2-1))) (next4 (IntKind.u64.wrap (guess2-1),rest1)):=by
 have hhd0:0<=hd1*4294967296+hd2:=om
 have hVB:4294967296*B<=V:=by
  have:4294967296*B<=(top*4294967296+nx)*B:=mul_le_mul_of_nonneg_right om om
  omega
 generalize hhd:hd1*4294967296+hd2=head at *
 have hhead:head<=top*4294967296+4294967295:=om
 have hq0:0<=head / top:=ediv_nonneg hhd0 om
 have hr0:0<=head % top:=emod_nonneg _ om
 have hr1:head % top<top:=emod_lt_of_pos _ om
 have hde:head=top*(head / top)+head % top:=(mul_ediv_add_emod head top).symm
 have hqu:head / top<4294967298:=by
  rw[Int.ediv_lt_iff_lt_mul om];omega
 rw[Int.tdiv_eq_ediv_of_nonneg hhd0,Int.tmod_eq_emod_of_nonneg hhd0,wrap_u64_id hq0 om]
 refine⟨λy=>0<=y.1/\y.1<4294967298/\0<=y.2/\y.2<4294967296/\head=y.1*top+y.2/\P<(y.1+1)*V,λy=>y.1.toNat,⟨hq0,hqu,hr0,by show head % top<_;omega,by show head=head / top*top+head % top;rw[mul_comm];exact hde,?_⟩,?_⟩
 ·show P<(head / top+1)*V
  refine zK hV hvl.1 hP hpl.2 hB om ?_
  have a1:(head / top+1)*top=top*(head / top)+top:=by rw[add_mul,mul_comm];omega
  have a2:(head / top+1)*(top*4294967296+nx)=(head / top+1)*top*4294967296+(head / top+1)*nx:=by rw[mul_add,mul_assoc]
  have a3:0<=(head / top+1)*nx:=mul_nonneg om hnx.1
  omega
 rintro⟨g,r⟩ ⟨hg0,hg1,hr0,hr1,hh,hU⟩
 simp only at hg0 hg1 hr0 hr1 hh hU
 have hexp:g*(top*4294967296+nx)=(g*top)*4294967296+g*nx:=by rw[mul_add,mul_assoc]
 refine⟨λ_=>P<g*V,condT (λhc=>?_) (λhc=>⟨hG1,hG2,hG3,?_⟩),λ_ hlt=>?_⟩
 ·have:V*4294967296<=g*V:=by rw[mul_comm V];exact mul_le_mul_of_nonneg_right hc om
  omega
 ·have hgn0:0<=g*nx:=mul_nonneg hg0 hnx.1
  have hgn1:g*nx<=4294967295*4294967295:=mul_le_mul om om hnx.1 om
  rw[wrap_u64_id (m:=r*4294967296) om om,wrap_u64_id hgn0 om,uQ 32 h3.1 h3.2 om (by show _ % 4294967296=0;omega) om]
  refine condT (λhgt=>?_) (λhle=>?_)
  ·exact zK hV hvl.1 hP hpl.2 hB hg0 om
  ·exact hn g hg0 om hU (zL hV hvl.1 hvl.2 hP hpl.1 hg0 om hVB om)
 ·have hg1':1<=g:=by
   rcases lt_or_le g 1 with h | h
   ·have:g=0:=om
    subst this
    have hP0:0<=P:=by
     rw[hP]
     have:0<=(head*4294967296+th)*B:=mul_nonneg om om
     omega
    simp at hlt;omega
   ·exact h
  rw[wrap_u64_id (m:=r+top) om om,wrap_u64_id (m:=g-1) om om]
  have hsub:(g-1)*top=g*top-top:=by rw[sub_mul];omega
  have hexp2:(g-1)*(top*4294967296+nx)=((g-1)*top)*4294967296+(g-1)*nx:=by rw[mul_add,mul_assoc]
  refine gt (condT (λhc=>?_) (λhc=>⟨⟨by show 0<=g-1;omega,by show g-1<_;omega,by show 0<=r+top;omega,by show r+top<_;omega,by show head=(g-1)*top+(r+top);omega,by show P<(g-1+1)*V;rw[Int.sub_add_cancel];exact hlt⟩,by show(g-1).toNat<g.toNat;omega⟩))
  have hgW:g-1<4294967296:=by
   rcases lt_or_le (g-1) 4294967296 with h | h
   ·exact h
   ·have:4294967296*top<=(g-1)*top:=mul_le_mul_of_nonneg_right h om
    omega
  have hgn1:(g-1)*nx<=4294967295*4294967295:=mul_le_mul om om hnx.1 om
  refine hn (g-1) om hgW (by rw[Int.sub_add_cancel];exact hlt) (zL hV hvl.1 hvl.2 hP hpl.1 om hgW hVB om)
set_option maxHeartbeats 2000000 in
theorem mB {a b:List Int} {Q:List Int->List Int->Option Int->Prop} (ha:az a) (hb:az b) (la:a.length<=1099511627774) (lb:b.length<=1099511627774)
  (h0:val b=0->Q [] [] (some 8)) (h:val b≠0->Q (lim (val a / val b)) (lim (val a % val b)) none):gV a b Q:=by
 refine bG ha (by unfold SM;omega) (bG hb (by unfold SM;omega) ?_)
 have b1:=dp ha
 have b2:=dp hb
 have w1:=aD (val a)
 have w2:=aD (val b)
 have v1:=aM (val a)
 have v2:=aM (val b)
 refine bv (λhc=>?_) (λhc=>?_)
 ·have:(lim (val b)).length=0:=om
  have:lim (val b)=[]:=eq_nil_of_length_eq_zero this
  rw[this,nf] at v2
  exact h0 v2.symm
 have hB:val b≠0:=by intro hh;rw[hh,cU] at hc;exact hc rfl
 replace h:=h hB
 clear h0
 refine fi w1 w2 (by unfold SM;omega) (by unfold SM;omega) ?_
 rw[v1,v2]
 refine condT (λhlt=>?_) (λhge=>bv (λh1=>?_) (λh1=>?_))
 ·have:=nO.1 hlt
  rw[Nat.div_eq_of_lt this,mod_eq_of_lt this,cU] at h
  exact h
 ·
  have hl1:(lim (val b)).length=1:=om
  have hw0:=w2 0
  have hbv:(val b:Int)=(lim (val b)).getD 0 0:=by
   have:=bO w2
   rw[v2,hl1] at this
   simpa[pv] using this
  refine⟨⟨om,om⟩,?_⟩
  have e0:at' (lim (val b)) 0=(val b:Int):=by rw[hbv];rfl
  rw[e0]
  have hm:val a % val b<val b:=mod_lt _ om
  refine nX w1 (by unfold SM;omega) om om ?_
  rw[v1,toNat_natCast,kX zRg]
  refine rb om ?_
  rw[toNat_natCast]
  exact h
 obtain⟨m,hm⟩:∃m,(lim (val b)).length=m+2:=⟨(lim (val b)).length-2,om⟩
 have hge':val b<=val a:=by
  rcases lt_or_ge (val a) (val b) with hh | hh
  ·exact absurd (nO.2 hh) hge
  ·exact hh
 have hlen:m+2<=(lim (val a)).length:=by rw[<-hm];exact cV hge'
 generalize hA:val a=A at *
 generalize hBv:val b=B at *
 have htop:=yd hB
 have hbd:(val (lim B):Int)=_:=bO w2
 rw[v2] at hbd
 have hAp:(A:Int)<4294967296^(lim A).length:=by
  have:=(bb w1 (lim A).length).2
  have e:=bO w1
  rw[v1] at e;omega
 generalize hla:lim A=al at *
 generalize hlb:lim B=bl at *
 rw[hm] at htop hbd
 have e21:m+2-1=m+1:=om
 rw[e21] at htop
 have hwt:=w2 (m+1)
 have hml:(bl.length:Int)-1=((m+1:Nat):Int):=om
 rw[hml]
 obtain⟨tp,htp⟩:∃x:Nat,bl.getD (m+1) 0=x:=⟨(bl.getD (m+1) 0).toNat,om⟩
 refine⟨zRg,⟨om,om⟩,?_⟩
 rw[fU,htp]
 rw[htp] at htop hwt
 have htp0:tp≠0:=om
 have c1:=pn (n:=tp)
 have c2:=nP htp0
 have c3:=po (x:=tp) om
 have c4:bB tp≠0:=by unfold bB;rw[if_neg htp0];omega
 refine Sb om ?_
 obtain⟨s,hs⟩:∃s,32-bB tp=s:=⟨_,rfl⟩
 rw[hs]
 have hs31:s<=31:=om
 refine oF w2 om om (λr4 hr4 hr4l hr4v=>?_)
 rw[hm] at hr4l
 rw[v2] at hr4v
 refine⟨⟨om,om,om⟩,gt ?_⟩
 have hvl:(fe r4 0 (bl.length:Int))=r4.take (m+2):=by
  show(r4.drop 0).take (((bl.length:Nat):Int).toNat-0)=_
  rw[toNat_natCast,hm];rfl
 rw[hvl]
 have hvlen:(r4.take (m+2)).length=m+2:=by rw[List.length_take,hr4l];omega
 have hPm:=fq m
 have ew:(4294967296:Int)^(m+2)=4294967296^m*4294967296*4294967296:=by rw[pow_succ,pow_succ]
 have ew1:(4294967296:Int)^(m+1)=4294967296^m*4294967296:=pow_succ ..
 have hbd2:(B:Int)=pv bl m+bl.getD m 0*4294967296^m+tp*(4294967296^m*4294967296):=by rw[hbd,pv,pv,htp,ew1]
 have hbm:=bb w2 m
 have hbm1:=w2 m
 have hlow:bl.getD m 0*4294967296^m<=4294967295*4294967296^m:=mul_le_mul_of_nonneg_right om om
 have hlow0:0<=bl.getD m 0*4294967296^m:=mul_nonneg hbm1.1 om
 have hps:=ft s
 have hts:(tp:Int)*2^s<4294967296/\2147483648<=(tp:Int)*2^s:=by
  have e1:(2:Int)^(bB tp)*2^s=4294967296:=jd (c:=32) om
  have e2:(2:Int)^(bB tp-1)*2^s=2147483648:=jd (c:=31) om
  have f1:(tp:Int)+1<=2^(bB tp):=by exact_mod_cast c1
  have f2:(2:Int)^(bB tp-1)<=tp:=by exact_mod_cast c2
  have g1:((tp:Int)+1)*2^s<=2^(bB tp)*2^s:=mul_le_mul_of_nonneg_right f1 om
  have g2:(2:Int)^(bB tp-1)*2^s<=tp*2^s:=mul_le_mul_of_nonneg_right f2 om
  rw[add_mul] at g1
  omega
 have hVval:((val r4:Nat):Int)=(B:Int)*2^s:=by rw[hr4v];simp
 have hr4p:=bO hr4
 rw[hr4l] at hr4p
 have hVlt:(val r4:Int)<4294967296^(m+2):=by
  have k1:(B:Int)+1<=(tp+1)*(4294967296^m*4294967296):=by rw[add_mul];omega
  have k2:((B:Int)+1)*2^s<=((tp+1)*(4294967296^m*4294967296))*2^s:=mul_le_mul_of_nonneg_right k1 om
  have k3:(((tp:Int)+1)*2^s)<=4294967296:=by
   have f1:(tp:Int)+1<=2^(bB tp):=by exact_mod_cast c1
   have e1:(2:Int)^(bB tp)*2^s=4294967296:=jd (c:=32) om
   have g1:((tp:Int)+1)*2^s<=2^(bB tp)*2^s:=mul_le_mul_of_nonneg_right f1 om
   omega
  have k4:(((tp:Int)+1)*2^s)*(4294967296^m*4294967296)<=4294967296*(4294967296^m*4294967296):=mul_le_mul_of_nonneg_right k3 om
  rw[mul_right_comm] at k2
  rw[add_mul] at k2
  rw[hVval,ew]
  omega
 have hVge:2147483648*(4294967296^m*4294967296)<=(val r4:Int):=by
  have k1:(tp:Int)*(4294967296^m*4294967296)<=B:=om
  have k2:(tp:Int)*(4294967296^m*4294967296)*2^s<=B*2^s:=mul_le_mul_of_nonneg_right k1 om
  have k3:2147483648*(4294967296^m*4294967296)<=(tp:Int)*2^s*(4294967296^m*4294967296):=mul_le_mul_of_nonneg_right hts.2 om
  rw[mul_right_comm] at k2
  omega
 have hVp:(val r4:Int)=pv (r4.take (m+2)) (m+2):=by
  rw[hr4p] at hVlt ⊢
  rw[BO (Nat.le_refl _)]
  exact qT hr4 om hVlt
 have hwv:az (r4.take (m+2)):=hr4.take _
 have hvv:val (r4.take (m+2))=val r4:=by
  have:=bO hwv
  rw[hvlen,<-hVp] at this;omega
 generalize hv:r4.take (m+2)=v at *
 generalize hVV:val r4=V at *
 clear hr4 hr4l hr4p hvl
 refine oF w1 om om (λu hu hul huv=>?_)
 rw[v1] at huv
 have hvl1:(v.length:Int)-1=((m+1:Nat):Int):=om
 have hvl2:(v.length:Int)-2=(m:Int):=om
 obtain⟨K,hK⟩:∃K,al.length=K+(m+2):=⟨al.length-(m+2),om⟩
 have hkl:(u.length:Int)-(v.length:Int)=((K+1:Nat):Int):=om
 rw[hvl1,hvl2,hkl]
 refine⟨zRg,⟨om,om⟩,zRg,⟨om,om⟩,zRg,i_ om om,zRg,gt ?_⟩
 rw[toNat_natCast]
 have hU:(val u:Int)<V*4294967296^(K+1):=by
  have k0:((val u:Nat):Int)=(A:Int)*2^s:=by rw[huv];simp
  have k1:(2:Int)^s<=2147483648:=by
   have:(2:Int)^s*2^(31-s)=2147483648:=jd (c:=31) om
   have h2:=ft (31-s)
   have:(2:Int)^s*1<=2^s*2^(31-s):=mul_le_mul_of_nonneg_left om om
   omega
  have k2:(A:Int)*2^s<4294967296^al.length*2^s:=Int.mul_lt_mul_of_pos_right hAp hps
  have k3:(4294967296:Int)^al.length*2^s<=4294967296^al.length*2147483648:=mul_le_mul_of_nonneg_left k1 (by have:=fq al.length;omega)
  have k4:(4294967296:Int)^al.length=4294967296^m*4294967296*4294967296^(K+1):=by
   rw[hK,<-pow_succ,<-pow_add];congr 1;omega
  rw[k4] at k2 k3
  have k6:(2147483648:Int)*(4294967296^m*4294967296*4294967296^(K+1))=4294967296^m*4294967296*4294967296^(K+1)*2147483648:=mul_comm _ _
  have k7:(2147483648:Int)*(4294967296^m*4294967296)*4294967296^(K+1)=2147483648*(4294967296^m*4294967296*4294967296^(K+1)):=mul_assoc ..
  have hPK:=fq (K+1)
  have k8:(2147483648:Int)*(4294967296^m*4294967296)*4294967296^(K+1)<=(V:Int)*4294967296^(K+1):=mul_le_mul_of_nonneg_right hVge (le_of_lt hPK)
  omega
 have hup:=bO hu
 have hulk:u.length=K+m+3:=om
 rw[hulk] at hup
 have hvm:=hwv m
 have hvm1:=hwv (m+1)
 have hVexp:(V:Int)=(v.getD (m+1) 0*4294967296+v.getD m 0)*4294967296^m+pv v m:=by
  rw[hVp,pv,pv,ew1,add_mul,mul_assoc,mul_comm 4294967296];omega
 have hvlo:=bb hwv m
 have htopge:2147483648<=v.getD (m+1) 0:=by
  rcases lt_or_le (v.getD (m+1) 0) 2147483648 with hh | hh
  ·exfalso
   have k1:(v.getD (m+1) 0*4294967296+v.getD m 0+1)*4294967296^m<=(2147483647*4294967296+4294967296)*4294967296^m:=mul_le_mul_of_nonneg_right om om
   rw[add_mul] at k1
   omega
  ·exact hh
 have hV0:0<(V:Int):=om
 refine⟨λy=>∃j:Nat,y.1=(j:Int)-1/\j<=K+1/\y.2.1.length=K+m+3/\az y.2.1/\y.2.2.length=K+1/\az y.2.2/\(∀k,k<j->y.2.2.getD k 0=0)/\
   (val u:Int)=pv y.2.2 (K+1)*V+pv y.2.1 (K+m+3)/\pv y.2.1 (K+m+3)<V*4294967296^j,λy=>(y.1+1).toNat,
  ⟨K+1,rfl,Nat.le_refl _,hulk,hu,by simp[aQ],az.rep _,λk hk=>?_,?_,?_⟩,?_⟩
 ·show(replicate (K+1) (0:Int)).getD k 0=0
  rw[List.getD_eq_getElem?_getD,List.getElem?_replicate];split<;>rfl
 ·show(val u:Int)=pv (replicate (K+1) (0:Int)) (K+1)*V+pv u (K+m+3)
  rw[qg,<-hup];omega
 ·show pv u (K+m+3)<_
  rw[<-hup];exact hU
 clear hU hup hulk hul hu
 rintro⟨x,u1,q⟩ ⟨j,hx,hj,hul1,hu1,hql,hq,hqz,hsum,hrem⟩
 simp only at hx hj hul1 hu1 hql hq hqz hsum hrem
 subst hx
 refine condT (λhc=>?_) (λhc=>?_)
 ·obtain⟨i,rfl⟩:∃i,j=i+1:=⟨j-1,om⟩
  have ei:((i+1:Nat):Int)-1=(i:Int):=om
  have f1:(i:Int)+(v.length:Int)=((i+(m+2):Nat):Int):=om
  have f2:((i+(m+2):Nat):Int)-1=((i+(m+1):Nat):Int):=om
  have f3:((i+(m+2):Nat):Int)-2=((i+m:Nat):Int):=om
  have f4:((i+(m+2):Nat):Int)+1=((i+(m+3):Nat):Int):=om
  have f5:0+toNat (i:Int)=i:=om
  have f6:toNat ((i+(m+3):Nat):Int)-toNat (i:Int)=m+3:=om
  have h1:=hu1 (i+(m+2))
  have h2:=hu1 (i+(m+1))
  have h3:=hu1 (i+m)
  have e32:(2:Int)^toNat 32=4294967296:=rfl
  have g1:=wrap_u64_id (m:=u1.getD (i+(m+2)) 0) om om
  have g2:=wrap_u64_id (m:=u1.getD (i+(m+1)) 0) om om
  have g3:=wrap_u64_id (m:=u1.getD (i+m) 0) om om
  have g4:=wrap_u64_id (m:=v.getD (m+1) 0) om om
  have g5:=wrap_u64_id (m:=v.getD m 0) om om
  have g6:=wrap_u64_id (m:=u1.getD (i+(m+2)) 0*4294967296) om om
  have g7:=uQ (x:=u1.getD (i+(m+1)) 0) (y:=u1.getD (i+(m+2)) 0*4294967296) 32 h2.1 h2.2 om (by show _ % 4294967296=0;omega) om
  simp only[ei,f1,f2,f3,f4,f5,f6,fU,e32,g1,g2,g3,g4,g5,g6,g7]
  obtain⟨P,hPd⟩:∃P,P=pv (u1.drop i) (m+3):=⟨_,rfl⟩
  have hPi:=fq i
  have hud:az (u1.drop i):=hu1.drop i
  have hPb:=bb hud (m+3)
  have htot:pv u1 (K+m+3)=pv u1 i+P*4294967296^i:=by
   have k0:K+m+3=i+((m+3)+(K-i)):=om
   rw[k0,mP]
   congr 2
   rw[hPd]
   refine qT hud om ?_
   rw[k0,mP,pow_succ] at hrem
   have k1:=(bb hu1 i).1
   have k2:pv (u1.drop i) (m+3+(K-i))*4294967296^i<(V*4294967296)*4294967296^i:=by
    rw[mul_assoc,mul_comm 4294967296];omega
   have k3:=Int.lt_of_mul_lt_mul_right k2 (le_of_lt hPi)
   have k4:(4294967296:Int)^(m+3)=4294967296^(m+2)*4294967296:=pow_succ ..
   omega
  have hPV:P<V*4294967296:=by
   have k1:=(bb hu1 i).1
   rw[htot,pow_succ] at hrem
   have k2:P*4294967296^i<(V*4294967296)*4294967296^i:=by
    rw[mul_assoc,mul_comm 4294967296];omega
   exact Int.lt_of_mul_lt_mul_right k2 (le_of_lt hPi)
  have hP0:0<=P:=by rw[hPd];exact hPb.1
  have hPexp:P=((u1.getD (i+(m+2)) 0*4294967296+u1.getD (i+(m+1)) 0)*4294967296+u1.getD (i+m) 0)*4294967296^m+pv (u1.drop i) m:=by
   rw[hPd,pv,pv,pv,fR,fR,fR,ew,ew1]
   generalize (4294967296:Int)^m=B
   generalize pv (u1.drop i) m=z
   grind
  have hhd:u1.getD (i+(m+2)) 0<=v.getD (m+1) 0:=by
   rcases lt_or_le (v.getD (m+1) 0) (u1.getD (i+(m+2)) 0) with hh | hh
   ·exfalso
    have k1:(v.getD (m+1) 0+1)*(4294967296^m*4294967296*4294967296)<=u1.getD (i+(m+2)) 0*(4294967296^m*4294967296*4294967296):=mul_le_mul_of_nonneg_right om om
    have k2:P=u1.getD (i+(m+2)) 0*(4294967296^m*4294967296*4294967296)+pv (u1.drop i) (m+2):=by rw[hPd,pv,fR,ew];omega
    have k3:=(bb hud (m+2)).1
    have k4:(V:Int)=v.getD (m+1) 0*(4294967296^m*4294967296)+pv v (m+1):=by rw[hVp,pv,ew1];omega
    have k5:=(bb hwv (m+1)).2
    rw[ew1] at k5
    have k6:(V:Int)*4294967296<(v.getD (m+1) 0+1)*(4294967296^m*4294967296*4294967296):=by
     rw[add_mul,<-mul_assoc (v.getD (m+1) 0),k4];omega
    omega
   ·exact hh
  refine⟨zRg,⟨om,om⟩,zRg,zRg,⟨om,om⟩,om,om,λg=>0<=g/\g<4294967296/\P<(g+1)*V/\(g-1)*V<=P,
   AZ (next3:=λg=>0<=g/\g<4294967296/\P<(g+1)*V/\(g-1)*V<=P) (G1:=rng ((i+(m+2):Nat):Int)) (G2:=rng ((i+m:Nat):Int)) (G3:=(0:Int)<=((i+m:Nat):Int)/\((i+m:Nat):Int)<(u1.length:Int)) zRg zRg ⟨om,om⟩ htopge hvm1.2 hvm ⟨h1.1,hhd⟩ h2 h3 hVexp hvlo hPexp (bb hud m) hPm hPV (λg a1 a2 a3 a4=>⟨a1,a2,a3,a4⟩),?_⟩
  rintro g ⟨hg0,hg1,hgU,hgL⟩
  have hPW:(4294967296:Int)^(m+3)=4294967296^(m+2)*4294967296:=pow_succ ..
  refine⟨λy=>az y.2/\y.2.length=K+m+3/\(∀k,k<i\/i+(m+3)<=k->y.2.getD k 0=u1.getD k 0)/\0<=y.1/\y.1<4294967296/\pv (y.2.drop i) (m+3)=P-y.1*V/\P-y.1*V<V,?_,?_⟩
  ·refine⟨zRg,zRg,⟨om,om,om⟩,?_⟩
   refine ve hu1 hwv (by unfold SM;omega) om om hg0 hg1 (λw b hw hwl hwz hb hwp=>⟨hwl,?_⟩)
   rw[hvv,<-hPd] at hwp
   have hwd:=bb (hw.drop i) (m+3)
   have hgs:(g-1)*(V:Int)=g*V-V:=by rw[sub_mul];omega
   have hga:(g+1)*(V:Int)=g*V+V:=by rw[add_mul];omega
   rcases hb with rfl | rfl
   ·refine⟨λhh=>(by cases hh),λ_=>⟨hw,by show w.length=_;omega,hwz,hg0,hg1,?_,?_⟩⟩
    ·show pv (w.drop i) (m+3)=P-g*V
     omega
    ·show P-g*V<V
     omega
   ·refine⟨λ_=>⟨zRg,zRg,⟨om,om,om⟩,?_⟩,λhh=>by cases hh⟩
    refine vf hw hwv (by unfold SM;omega) om om (λw' c hw' hwl' hwz' hc' hwp'=>⟨hwl',?_⟩)
    rw[hvv] at hwp'
    have hwd':=bb (hw'.drop i) (m+3)
    have hg1':1<=g:=by
     rcases lt_or_le g 1 with hh | hh
     ·have:g=0:=om
      subst this
      omega
     ·exact hh
    rw[wrap_u64_id (m:=g-1) om om]
    refine⟨hw',by show w'.length=_;omega,λk hk=>?_,by show 0<=g-1;omega,by show g-1<_;omega,?_,?_⟩
    ·show w'.getD k 0=_
     rw[hwz' k hk,hwz k hk]
    ·show pv (w'.drop i) (m+3)=P-(g-1)*V
     rcases hc' with rfl | rfl<;>omega
    ·show P-(g-1)*V<V
     omega
  ·rintro⟨g',u2⟩ ⟨hu2,hul2,hz2,hg0',hg1',hp2,hr2⟩
   simp only at hu2 hul2 hz2 hg0' hg1' hp2 hr2
   refine⟨⟨om,om⟩,zRg,⟨i,rfl,om,hul2,hu2,by simp[aN,hql],?_,λk hk=>?_,?_,?_⟩,by first | omega | (dsimp only;omega)⟩
   ·rw[wrap_u32,fG];exact hq.set _ om om
   ·show(aN q (i:Int) _).getD k 0=0
    rw[fG,bU om];exact hqz k om
   ·show(val u:Int)=pv (aN q (i:Int) (IntKind.u32.wrap g')) (K+1)*V+pv u2 (K+m+3)
    have k0:=xV hz2 (K+m+3) om
    have hgm:g' % 4294967296=g':=om
    rw[fG,wrap_u32,hgm,gk om (K+1) om,hqz i om,sub_zero,hsum,add_mul]
    rw[hp2,<-hPd] at k0
    have k1:(P-g'*V-P)*4294967296^i = - (g'*4294967296^i*V):=by
     have:P-g'*V-P = - (g'*V):=om
     rw[this,Int.neg_mul,mul_right_comm]
    omega
   ·show pv u2 (K+m+3)<V*4294967296^i
    have k0:=xV hz2 (K+m+3) om
    rw[hp2,<-hPd,htot] at k0
    have k1:=(bb hu1 i).2
    have k2:(P-g'*V+1)*4294967296^i<=V*4294967296^i:=mul_le_mul_of_nonneg_right om om
    have k3:(P-g'*V-P)*4294967296^i=(P-g'*V)*4294967296^i-P*4294967296^i:=by rw[sub_mul]
    rw[add_mul] at k2
    omega
 ·obtain rfl:j=0:=om
  rw[Int.pow_zero,Int.mul_one] at hrem
  have hq1:=bO hq
  have hu1v:=bO hu1
  rw[hql] at hq1
  rw[hul1] at hu1v
  rw[<-hq1,<-hu1v] at hsum
  rw[<-hu1v] at hrem
  have hsumN:val u=val q*V+val u1:=by
   have:((val u:Nat):Int)=((val q*V+val u1:Nat):Int):=by rw[natCast_add,natCast_mul];exact hsum
   omega
  have hVB:V=B*2^s:=hr4v
  have hps':0<2^s:=pow_pos om
  have hV0':0<V:=om
  have hdiv:A / B=val q:=by
   have k1:A*2^s / (B*2^s)=A / B:=Nat.mul_div_mul_right _ _ hps'
   rw[<-k1,<-huv,<-hVB,hsumN,Nat.add_comm,Nat.add_mul_div_right _ _ hV0',Nat.div_eq_of_lt om];omega
  have hmod:A % B=val u1 / 2^s:=by
   have k1:A*2^s % (B*2^s)=A % B*2^s:=Nat.mul_mod_mul_right _ _ _
   rw[<-huv,<-hVB,hsumN,Nat.add_comm,Nat.add_mul_mod_self_right,mod_eq_of_lt om] at k1
   rw[k1,Nat.mul_div_cancel _ hps']
  refine bG hq (by unfold SM;omega) (tD hu1 (by unfold SM;omega) om (λr hr hrl hrv=>bG hr (by unfold SM;omega) ?_))
  rw[hrv,<-hmod,<-hdiv]
  exact h
theorem pM {a b:List Int} {Q:List Int->Prop} (ha:az a) (hb:az b) (la:a.length<=1099511627774) (lb:b.length<=1099511627774) (h:Q (lim (gcd (val a) (val b)))):jx a b Q:=by
 refine bG ha (by unfold SM;omega) (bG hb (by unfold SM;omega) ?_)
 have b1:=dp ha
 have b2:=dp hb
 refine⟨λy=>∃m n:Nat,y=(lim m,lim n)/\(lim m).length<=1099511627774/\(lim n).length<=1099511627774/\gcd m n=gcd (val a) (val b),λy=>val y.2,⟨_,_,rfl,om,om,rfl⟩,?_⟩
 rintro _ ⟨m,n,rfl,hm,hn,hg⟩
 refine condT (λhc=>?_) (λhc=>?_)
 ·have hn0:n≠0:=by rintro rfl;rw[cU] at hc;simp at hc
  refine mB (aD m) (aD n) hm hn (λh0=>absurd (by rw[aM] at h0;exact h0) hn0) (λ_=>?_)
  rw[aM,aM]
  have hlt:=mod_lt m (Nat.pos_of_ne_zero hn0)
  refine⟨⟨n,m % n,rfl,hn,le_trans (cV (Nat.le_of_lt hlt)) hn,?_⟩,?_⟩
  ·rw[<-hg,gcd_comm n,<-Nat.gcd_rec,gcd_comm]
  ·show val (lim (m % n))<val (lim n)
   rw[aM,aM];exact hlt
 ·have hn0:n=0:=by
   rcases Nat.eq_zero_or_pos n with h0 | h0
   ·exact h0
   ·rw[fJ h0] at hc;simp at hc
  subst hn0
  rw[Nat.gcd_zero_right] at hg
  rw[<-hg] at h
  exact h
theorem tS {l:List Int} {n:Nat} {x:Int} (h:l.length=n):pv (l++[x]) (n+1)=pv l n+x*4294967296^n:=by
 rw[pv,CQ om,pP om]
 have:n-l.length=0:=om
 rw[this];rfl
theorem az.one {x:Int} (h0:0<=x) (h1:x<4294967296):az [x]:=az.nil.cons h0 h1
theorem yp {l:List Int} {x:Int} (h:l.length<=1099511627776):(l++[x]).length*4<=140737488355328:=by simp;omega
theorem cC {a:List Int} {i:Nat} {Q:Int->Prop} (hw:az a) (h:Q (a.getD i 0)):ca a (i:Int) Q:=by
 refine condT (λhc=>⟨⟨om,hc⟩,?_⟩) (λhc=>?_)
 ·rw[fU]
  have:=hw i
  rw[wrap_u64_id om om]
  exact h
 ·rw[pk om] at h
  exact h
theorem dV {a:List Int} {Q:List Int->Prop} (hw:az a) (hl:SM a) (h:Q (lim (val a))):cQ a Q:=by
 refine⟨λn=>∃j:Nat,n=j/\j<=a.length/\(∀i,j<=i->i<a.length->a.getD i 0=0)/\(0<j->a.getD (j-1) 0≠0),?_,?_⟩
 ·refine⟨λn=>∃j:Nat,n=j/\j<=a.length/\(∀i,j<=i->i<a.length->a.getD i 0=0),λn=>n.toNat,⟨a.length,rfl,Nat.le_refl _,λi h1 h2=>om⟩,?_⟩
  rintro n ⟨j,rfl,hj,hz⟩
  refine condT (λhc=>⟨zRg,⟨om,om⟩,bv (λhe=>⟨zRg,⟨j-1,om,om,λi h1 h2=>?_⟩,by dsimp only;omega⟩) (λhe=>⟨j,rfl,hj,hz,λ_=>?_⟩)⟩) (λhc=>⟨j,rfl,hj,hz,λh0=>om⟩)
  ·by_cases hi:i=j-1
   ·subst hi
    rw[sx] at he
    have:((j:Int)-1).toNat=j-1:=om
    rwa[this] at he
   ·exact hz i om h2
  ·rw[sx] at he
   have:((j:Int)-1).toNat=j-1:=om
   rwa[this] at he
 ·rintro n ⟨j,rfl,hj,hz,hlast⟩
  have e:=rk hw hj hz hlast
  refine⟨⟨om,om,om⟩,?_,?_⟩
  ·simp[fe]
   have:min j a.length<=a.length:=om
   omega
  ·rw[<-e] at h
   simpa[fe] using h
theorem sU {a b:List Int} {Q:Int->Prop} (ha:az a) (hb:az b) (la:SM a) (lb:SM b) (h:Q (kD (val a) (val b))):jK a b Q:=by
 unfold SM at la lb
 obtain⟨N,hN⟩:∃N,N=max a.length b.length:=⟨_,rfl⟩
 have hNi:max (a.length:Int) (b.length:Int)=(N:Int):=om
 have v1:=fl ha (i:=N) om
 have v2:=fl hb (i:=N) om
 unfold jK
 rw[hNi]
 refine⟨zRg,gt ⟨λi=>∃j:Nat,i=(j:Int)-1/\j<=N/\(∀k,j<=k->k<N->a.getD k 0=b.getD k 0),λi=>(i+1).toNat,⟨N,rfl,Nat.le_refl _,λk h1 h2=>om⟩,?_⟩⟩
 rintro _ ⟨j,rfl,hj,he⟩
 refine condT (λhc=>?_) (λhc=>?_)
 ·obtain⟨i,rfl⟩:∃i,j=i+1:=⟨j-1,om⟩
  have ei:((i+1:Nat):Int)-1=(i:Int):=om
  rw[ei]
  refine cC ha (cC hb (condT (λh1=>?_) (λh1=>cC ha (cC hb (condT (λh2=>?_) (λh2=>⟨zRg,⟨i,rfl,om,λk h3 h4=>?_⟩,by dsimp only;omega⟩))))))
  ·have:=BP ha hb (i:=i) (n:=N) om h1 (λk h1 h2=>he k om h2)
   rw[kD,if_pos om] at h;exact h
  ·have:=BP hb ha (i:=i) (n:=N) om h2 (λk h1 h2=>(he k om h2).symm)
   rw[kD,if_neg om,if_neg om] at h;exact h
  ·by_cases hk:k=i
   ·subst hk;omega
   ·exact he k om h4
 ·have:=jL (l:=a) (m:=b) N (λk hk=>he k om hk)
  rw[kD,if_neg om,if_pos om] at h;exact h
theorem sS {a b:List Int} {Q:List Int->Int->Prop} (ha:az a) (hb:az b) (la:SM a) (lb:SM b) (h1:val a<val b->Q [] 3) (h2:val b<=val a->Q (lim (val a-val b)) 0):lU a b Q:=by
 refine sU ha hb la lb (condT (λhc=>h1 (nO.1 hc)) (λhc=>?_))
 have hge:val b<=val a:=by have:=mt nO.2 hc;omega
 have h:=h2 hge
 clear h1 h2
 unfold SM at la lb
 refine⟨λy=>∃i:Nat,y.2.1=i/\i<=a.length/\y.2.2.length=i/\az y.2.2/\0<=y.1/\y.1<=1/\pv y.2.2 i=pv a i-pv b i+y.1*4294967296^i,λy=>a.length-y.2.1.toNat,⟨0,rfl,om,rfl,az.nil,by show(0:Int)<=0;omega,by show(0:Int)<=1;omega,by simp[pv]⟩,?_⟩
 rintro⟨c,x,out⟩ ⟨i,hx,hi,hlen,hw,hb0,hb1,hpv⟩
 simp only at hx hi hlen hw hb0 hb1 hpv
 subst hx
 have hxl:=ha i
 have hxm:=hb i
 obtain⟨q1,q2,q3⟩:=uh (a.getD i 0) (b.getD i 0) c hxl hxm ⟨hb0,hb1⟩
 refine condT (λhlt=>cC ha (cC hb (gt ⟨yp om,zRg,?_,by dsimp only;omega⟩))) (λhge=>?_)
 ·simp only[wrap_u32]
  generalize IntKind.u64.wrap (IntKind.u64.wrap (a.getD i 0-b.getD i 0)-c)=d at *
  have e63:d / 2^toNat 63=d / 9223372036854775808:=rfl
  refine⟨i+1,rfl,om,by simp[hlen],hw.append (az.one om om),by simpa only[e63] using q2,by simpa only[e63] using q3,?_⟩
  simp only[e63]
  rw[tS hlen,pow_succ,pv,pv,hpv]
  have e:d % 4294967296=a.getD i 0-b.getD i 0-c+4294967296*(d / 9223372036854775808):=om
  rw[e]
  generalize d / 9223372036854775808=d'
  have a1:=add_mul (a.getD i 0-b.getD i 0-c) (4294967296*d') (4294967296^i)
  have a2:=sub_mul (a.getD i 0-b.getD i 0) c (4294967296^i)
  have a3:=sub_mul (a.getD i 0) (b.getD i 0) (4294967296^i)
  have a4:4294967296*d'*4294967296^i=d'*(4294967296^i*4294967296):=by rw[mul_comm 4294967296 d',mul_assoc,mul_comm 4294967296]
  omega
 ·obtain rfl:i=a.length:=om
  refine dV hw (by unfold SM;omega) ?_
  have e:val out=val a-val b:=by
   have a1:=fl hw (i:=a.length) om
   have a2:=bO ha
   have a3:=bb ha a.length
   have a4:=bb hw a.length
   have a5:=bb hb a.length
   have a6:=bO hb
   rcases lt_or_ge a.length b.length with h | h
   ·have hm1:=pd hb (Nat.le_of_lt h)
    rcases (by omega:c=0\/c=1) with rfl | rfl
    ·have hz:pv b b.length=pv b a.length:=by
      refine qT hb (Nat.le_of_lt h) ?_
      omega
     omega
    ·omega
   ·have hm1:=fl hb h
    rcases (by omega:c=0\/c=1) with rfl | rfl<;>omega
  rw[e]
  exact h
theorem Gp {X C A1 B1 P1 P2:Int} (f1:0<=X) (f2:1*(P1*P2)<=C*(P1*P2)) (h:X+C*(P1*P2)=A1*B1) (a0:0<=A1) (a1:A1<P1) (_b0:0<=B1) (b1:B1<P2) (_p1:0<P1) (p2:0<P2):False:=by
 have h1:A1*B1<=A1*P2:=mul_le_mul_of_nonneg_left om a0
 have h2:A1*P2<P1*P2:=Int.mul_lt_mul_of_pos_right a1 p2
 omega
set_option maxHeartbeats 1000000 in
theorem zk {a b:List Int} {Q:List Int->Prop} (ha:az a) (hb:az b) (la:a.length+b.length<=1099511627775) (h:Q (lim (val a*val b))):lV a b Q:=by
 obtain⟨N,hN⟩:∃N,N=a.length+b.length+1:=⟨_,rfl⟩
 have hNi:(a.length:Int)+(b.length:Int)+1=(N:Int):=om
 have hL:(b.length:Int)+1=((b.length+1:Nat):Int):=om
 unfold lV
 rw[hNi,hL]
 refine⟨zRg,zRg,i_ om om,?_⟩
 refine⟨λy=>∃i:Nat,y.1=i/\i<=a.length/\y.2.length=N/\az y.2/\pv y.2 (i+b.length)=pv a i*pv b b.length/\(∀p,i+b.length<=p->y.2.getD p 0=0),λy=>a.length-y.1.toNat,
  ⟨0,rfl,om,by simp[aQ],az.rep _,by rw[tR,qg];simp[pv],λp hp=>by rw[tR,List.getD_eq_getElem?_getD,List.getElem?_replicate];split<;>rfl⟩,?_⟩
 rintro⟨x,out⟩ ⟨i,hx,hi,hlen,hw,hpv,hz⟩
 simp only at hx hi hlen hw hz hpv
 subst hx
 have hxi:=ha i
 refine condT (λhlt=>⟨⟨om,hlt⟩,zRg,?_⟩) (λhge=>?_)
 ·have hbl:pv b (b.length+1)=pv b b.length:=sV _ om
  refine⟨λy=>∃k:Nat,y.2.1=k/\k<=b.length+1/\y.2.2.length=N/\az y.2.2/\(∀p,i+(b.length+1)<=p->y.2.2.getD p 0=0)/\0<=y.1/\y.1<4294967296/\(k=b.length+1->y.1=0)/\
    pv y.2.2 N+y.1*4294967296^(i+k)=pv a i*pv b b.length+a.getD i 0*4294967296^i*pv b k,λy=>b.length+1-y.2.1.toNat,
   ⟨0,rfl,om,hlen,hw,λp hp=>hz p om,by show(0:Int)<=0;omega,by show(0:Int)<_;omega,om,?_⟩,?_⟩
  ·show pv out N+0*_=_
   rw[nD (j:=i+b.length) N om (λk h1 h2=>hz k h1),hpv];simp[pv]
  clear hpv hz hw hlen h
  rintro⟨c,x1,out2⟩ ⟨k,hx,hk,hlen,hw,hz,hc0,hc1,hck,hpv⟩
  simp only at hx hk hlen hw hz hc0 hc1 hck hpv
  subst hx
  have hy:=hb k
  have ho:=hw (i+k)
  obtain⟨q1,q2⟩:=zC hxi hy
  have eik:(i:Int)+(k:Int)=((i+k:Nat):Int):=om
  refine condT (λhlt2=>⟨b.getD k 0,cC hb rfl,zRg,⟨om,om⟩,zRg,⟨om,om⟩,gt ⟨zRg,?_,by dsimp only;omega⟩⟩) (λhge2=>⟨zRg,?_,by dsimp only;omega⟩)
  ·simp only[eik,fU,fG]
   simp (disch:=omega) only[wrap_u64_id,wrap_u32]
   have e32:∀z:Int,z / 2^toNat 32=z / 4294967296:=λ_=>rfl
   simp only[e32]
   generalize hv:a.getD i 0*b.getD k 0+out2.getD (i+k) 0+c=v
   have hnew:pv (out2.set (i+k) (v % 4294967296)) N+v / 4294967296*4294967296^(i+(k+1))=pv a i*pv b b.length+a.getD i 0*4294967296^i*pv b (k+1):=by
    rw[gk om N om,pv,<-Nat.add_assoc,pow_succ,mul_add,<-Int.add_assoc,<-hpv]
    have s1:=nq v (4294967296^(i+k))
    have s2:=sub_mul (v % 4294967296) (out2.getD (i+k) 0) (4294967296^(i+k))
    have s3:v*4294967296^(i+k)=a.getD i 0*4294967296^i*(b.getD k 0*4294967296^k)+out2.getD (i+k) 0*4294967296^(i+k)+c*4294967296^(i+k):=by
     rw[<-hv,add_mul,add_mul,pow_add]
     congr 2
     rw[mul_assoc,mul_assoc,mul_left_comm (b.getD k 0)]
    omega
   refine⟨k+1,rfl,om,by simp[hlen],hw.set _ om om,λp hp=>?_,by show 0<=v / 4294967296;omega,by show v / 4294967296<4294967296;omega,λhkb=>?_,hnew⟩
   ·show(out2.set (i+k) _).getD p 0=0
    rw[bU om];exact hz p hp
   ·show v / 4294967296=0
    have:k=b.length:=om
    have hy0:b.getD k 0=0:=pk om
    have ho0:out2.getD (i+k) 0=0\/True:=.inr trivial
    rw[hy0,Int.mul_zero] at hv
    rcases lt_or_le v 4294967296 with h1 | h1
    ·omega
    ·exfalso
     have f1:=(bb (hw.set (i+k) (x:=v % 4294967296) om om) N).1
     have f2:1*(4294967296:Int)^(i+(k+1))<=v / 4294967296*4294967296^(i+(k+1)):=mul_le_mul_of_nonneg_right om (by have:=fq (i+(k+1));omega)
     have f3:=(bb ha (i+1)).2
     have f4:=bb hb b.length
     have f5:pv a i*pv b b.length+a.getD i 0*4294967296^i*pv b (k+1)=pv a (i+1)*pv b b.length:=by
      have:pv b (k+1)=pv b b.length:=sV _ om
      rw[this,pv,add_mul]
     have f7:(4294967296:Int)^(i+(k+1))=4294967296^(i+1)*4294967296^b.length:=by rw[<-pow_add];congr 1;omega
     have f9:=fq (i+1)
     have f10:=fq b.length
     rw[f5,f7] at hnew
     rw[f7] at f2
     have f0:=(bb ha (i+1)).1
     generalize (4294967296:Int)^(i+1)=P1 at *
     generalize (4294967296:Int)^b.length=P2 at *
     generalize pv a (i+1)=A1 at *
     generalize pv b b.length=B1 at *
     exact Gp f1 f2 hnew f0 f3 f4.1 f4.2 f9 f10
  ·obtain rfl:k=b.length+1:=om
   have:=hck rfl
   subst this
   refine⟨i+1,rfl,om,hlen,hw,?_,λp hp=>hz p om⟩
   show pv out2 (i+1+b.length)=pv a (i+1)*pv b b.length
   rw[<-nD (j:=i+1+b.length) N om (λk h1 h2=>hz k om),pv,add_mul]
   rw[hbl] at hpv
   omega
 ·obtain rfl:i=a.length:=om
  refine dV hw (by unfold SM;omega) ?_
  have e:val out=val a*val b:=by
   have a1:=fl hw (i:=N) om
   rw[nD (j:=a.length+b.length) N om (λk h1 h2=>hz k h1),hpv] at a1
   have a2:=bO ha
   have a3:=bO hb
   have:((val a*val b:Nat):Int)=(val a:Int)*(val b:Int):=by simp
   have:(val out:Int)=((val a*val b:Nat):Int):=by rw[this,a1,a2,a3]
   omega
  rw[e]
  exact h
theorem uD {a:List Int} {n:Nat} {Q:List Int->Prop} (ha:az a) (la:a.length<=1099511627775) (hn:n<=32) (h:Q (lim (val a*2^n))):nB a (n:Int) Q:=by
 have hpp:=ft n
 have hs:=oX hn
 have hqp:=ft (32-n)
 have hple:(2:Int)^n<=4294967296:=by
  have:(2:Int)^n*1<=2^n*2^(32-n):=mul_le_mul_of_nonneg_left om om
  omega
 refine⟨λy=>∃i:Nat,y.2.1=i/\i<=a.length/\y.2.2.length=i/\az y.2.2/\0<=y.1/\y.1<2^n/\pv y.2.2 i+y.1*4294967296^i=pv a i*2^n,λy=>a.length-y.2.1.toNat,⟨0,rfl,om,rfl,az.nil,by show(0:Int)<=0;omega,hpp,by simp[pv]⟩,?_⟩
 rintro⟨c,x,out⟩ ⟨i,hx,hi,hlen,hw,hc0,hc1,hpv⟩
 simp only at hx hi hlen hw hc0 hc1 hpv
 subst hx
 have hxi:=ha i
 refine condT (λhlt=>⟨⟨om,hlt⟩,⟨om,om⟩,?_⟩) (λhge=>?_)
 ·rw[fU,toNat_natCast]
  have hy0:0<=a.getD i 0*2^n:=mul_nonneg hxi.1 om
  have hy1:a.getD i 0*2^n<=4294967295*2^n:=mul_le_mul_of_nonneg_right om om
  have hmod:a.getD i 0*2^n % 2^n=0:=Int.mul_emod_left _ _
  have hor:bits .or .u64 c (a.getD i 0*2^n)=a.getD i 0*2^n+c:=xX n hc0 hc1 hy0 hmod om
  rw[wrap_u64_id hxi.1 om,wrap_u64_id hy0 om,hor]
  refine gt ⟨yp om,zRg,?_,by dsimp only;omega⟩
  have e32:∀z:Int,z / 2^toNat 32=z / 4294967296:=λ_=>rfl
  rw[e32,wrap_u32]
  generalize hd:a.getD i 0*2^n+c=d
  refine⟨i+1,rfl,om,by simp[hlen],hw.append (az.one om om),by show 0<=d / 4294967296;omega,?_,?_⟩
  ·show d / 4294967296<2^n
   rw[Int.ediv_lt_iff_lt_mul om];omega
  ·show pv (out++[d % 4294967296]) (i+1)+d / 4294967296*_=_
   rw[tS hlen,pow_succ,Int.add_assoc,nq,<-hd,pv,add_mul,add_mul,<-hpv,mul_right_comm]
   omega
 ·obtain rfl:i=a.length:=om
  rw[wrap_u32]
  have hcm:c % 4294967296=c:=om
  rw[hcm]
  refine⟨yp om,dV (hw.append (az.one hc0 om)) (by simp[SM];omega) ?_⟩
  have e:val (out++[c])=val a*2^n:=by
   have a1:=fl (hw.append (az.one hc0 (by omega:c<4294967296))) (i:=a.length+1) (by simp;omega)
   rw[tS hlen,hpv,<-bO ha] at a1
   have:((val a*2^n:Nat):Int)=(val a:Int)*2^n:=by simp
   omega
  rw[e];exact h
theorem xU {a:List Int} {n:Nat} {Q:List Int->Prop} (ha:az a) (la:SM a) (hn:n<=32) (h:Q (lim (val a / 2^n))):ky a (n:Int) Q:=by
 unfold SM at la
 have hs:=oX hn
 have hpp:=ft n
 have hqp:=ft (32-n)
 unfold ky
 generalize hp:(2:Int)^n=p at *
 generalize (2:Int)^(32-n)=q at *
 refine⟨λy=>∃i:Nat,y.1=i/\i<=a.length/\y.2.length=i/\az y.2/\pv y.2 i*p=pv a i-a.getD 0 0 % p+(a.getD i 0 % p)*4294967296^i,λy=>a.length-y.1.toNat,
  ⟨0,rfl,om,rfl,az.nil,by simp[pv];omega⟩,?_⟩
 rintro⟨x,out⟩ ⟨i,hx,hi,hlen,hw,hpv⟩
 simp only at hx hi hlen hw hpv
 subst hx
 have h0:=ha i
 have h1:=ha (i+1)
 have e1:(i:Int)+1=((i+1:Nat):Int):=om
 refine condT (λhlt=>cC ha ⟨zRg,?_⟩) (λhge=>?_)
 ·rw[e1]
  refine cC ha ⟨⟨om,om⟩,yp om,zRg,?_,by dsimp only;omega⟩
  have e32:(2:Int)^toNat 32=4294967296:=rfl
  rw[e32,toNat_natCast,hp,wrap_u64_id om om,xX 32 h0.1 h0.2 om (by show _ % 4294967296=0;omega) om,wrap_u32]
  generalize ha0:a.getD i 0=x0 at *
  generalize ha1:a.getD (i+1) 0=x1 at *
  have hx0:0<=x0 / p:=ediv_nonneg h0.1 om
  have hx0':x0 / p<q:=by rw[Int.ediv_lt_iff_lt_mul hpp,mul_comm,hs];exact h0.2
  have hm0:0<=x1 % p:=emod_nonneg _ om
  have hm1:x1 % p<p:=emod_lt_of_pos _ hpp
  have hdv:(x1*4294967296+x0) / p=x1*q+x0 / p:=by
   rw[<-hs,mul_left_comm,add_comm,Int.add_mul_ediv_left _ _ om,add_comm]
  have hk:(x1*4294967296+x0) / p % 4294967296=(x1 % p)*q+x0 / p:=by
   have d1:x1=p*(x1 / p)+x1 % p:=(mul_ediv_add_emod x1 p).symm
   have d2:x1*q+x0 / p=(x1 % p)*q+x0 / p+4294967296*(x1 / p):=by
    have:x1*q=(p*(x1 / p)+x1 % p)*q:=by rw[<-d1]
    rw[this,add_mul,mul_right_comm,hs];omega
   rw[hdv,d2,Int.add_mul_emod_self_left]
   refine Int.emod_eq_of_lt ?_ ?_
   ·have:=mul_nonneg hm0 (le_of_lt hqp);omega
   ·have:(x1 % p)*q<=(p-1)*q:=mul_le_mul_of_nonneg_right om om
    rw[sub_mul,hs] at this;omega
  rw[hk]
  have hq0:=mul_nonneg hm0 (le_of_lt hqp)
  have hq1:(x1 % p)*q<=(p-1)*q:=mul_le_mul_of_nonneg_right om om
  rw[sub_mul,hs] at hq1
  refine⟨i+1,rfl,om,by simp[hlen],hw.append (az.one om om),?_⟩
  show pv (out++[x1 % p*q+x0 / p]) (i+1)*p=pv a (i+1)-_+_
  rw[tS hlen,pv,add_mul,hpv,ha0,ha1,pow_succ]
  have d0:x0=p*(x0 / p)+x0 % p:=(mul_ediv_add_emod x0 p).symm
  have s1:(x1 % p*q+x0 / p)*4294967296^i*p=x1 % p*(4294967296^i*4294967296)+(p*(x0 / p))*4294967296^i:=by
   rw[add_mul,add_mul]
   congr 1
   ·rw[<-hs,mul_assoc,mul_assoc,mul_left_comm q,mul_comm q p]
   ·rw[mul_right_comm,mul_comm (x0 / p)]
  have s2:x0*4294967296^i=(p*(x0 / p))*4294967296^i+x0 % p*4294967296^i:=by
   rw[<-add_mul,<-d0]
  omega
 ·obtain rfl:i=a.length:=om
  refine dV hw (by unfold SM;omega) ?_
  have a1:=bO hw
  have a2:=bO ha
  rw[hlen] at a1
  rw[pk (Nat.le_refl a.length),Int.zero_emod,Int.zero_mul,<-a2,<-a1] at hpv
  have hr0:0<=a.getD 0 0 % p:=emod_nonneg _ om
  have hr1:a.getD 0 0 % p<p:=emod_lt_of_pos _ hpp
  have e:(val a:Int) / p=val out:=by
   have:(val a:Int)=p*val out+a.getD 0 0 % p:=by rw[mul_comm];omega
   rw[this,add_comm,Int.add_mul_ediv_left _ _ om,Int.ediv_eq_zero_of_lt hr0 hr1];omega
  have e2:((val a / 2^n:Nat):Int)=(val a:Int) / p:=by rw[<-hp];simp
  have:val out=val a / 2^n:=om
  rw[this];exact h
theorem Jp {y:Int} (h0:0<=y) (h1:y<4294967296):bits .and .u32 y 1=y % 2:=by
 obtain⟨m,rfl⟩:=eq_ofNat_of_zero_le h0
 show IntKind.u32.wrap (((BitVec.ofInt 32 (m:Int)) &&& (BitVec.ofInt 32 1)).toNat:Int)=_
 rw[wrap_u32,BitVec.toNat_and,BitVec.toNat_ofInt,BitVec.toNat_ofInt]
 have e1:((m:Int) % ((2^32:Nat):Int)).toNat=m:=om
 have e2:((1:Int) % ((2^32:Nat):Int)).toNat=1:=om
 rw[e1,e2,Nat.and_one_is_mod]
 omega
theorem yq (m i:Nat):m &&& 2^i=if m.testBit i then 2^i else 0:=by
 refine Nat.eq_of_testBit_eq (λj=>?_)
 rw[Nat.testBit_and,Nat.testBit_two_pow]
 by_cases h:i=j
 ·subst h
  cases hb:m.testBit i<;>simp
 ·split<;>simp[h]
theorem Jo {y:Int} (h0:0<=y) (h1:y<4294967296):bits .and .u32 y 2147483648=if y<2147483648 then 0 else 2147483648:=by
 obtain⟨m,rfl⟩:=eq_ofNat_of_zero_le h0
 show IntKind.u32.wrap (((BitVec.ofInt 32 (m:Int)) &&& (BitVec.ofInt 32 2147483648)).toNat:Int)=_
 rw[wrap_u32,BitVec.toNat_and,BitVec.toNat_ofInt,BitVec.toNat_ofInt]
 have e1:((m:Int) % ((2^32:Nat):Int)).toNat=m:=om
 have e2:((2147483648:Int) % ((2^32:Nat):Int)).toNat=2^31:=by decide
 rw[e1,e2,yq]
 have:m.testBit 31=decide (2147483648<=m):=by
  rw[Nat.testBit_eq_decide_div_mod_eq]
  have e:m / 2^31=m / 2147483648:=rfl
  rw[e]
  by_cases hm:2147483648<=m
  ·have:m / 2147483648=1:=om
   rw[this];simp[hm]
  ·have:m / 2147483648=0:=om
   rw[this];simp[hm]
 rw[this]
 by_cases hm:2147483648<=m
 ·have h2:¬((m:Int)<2147483648):=om
  simp only[hm,decide_true,if_true]
  show _=if (m:Int)<2147483648 then _ else _
  rw[if_neg h2];rfl
 ·have h2:(m:Int)<2147483648:=om
  simp only[hm,decide_false,false_eq_true,if_false]
  show _=if (m:Int)<2147483648 then _ else _
  rw[if_pos h2];rfl
theorem GV {x p:Nat} (h:x<2^p):bB (x+2^p)=p+1:=by
 refine sw ?_ (λ_=>?_)
 ·rw[Nat.pow_succ];omega
 ·rw[Nat.add_sub_cancel];omega
theorem nC {a:List Int} {Q:Int->Prop} (ha:az a) (la:SM a) (h:Q (bB (val a))):iA a Q:=by
 unfold SM at la
 refine⟨λy=>∃i:Nat,y.2=i/\i<=a.length/\y.1=((bB (pv a i).toNat:Nat):Int),λy=>a.length-y.2.toNat,⟨0,rfl,om,rfl⟩,?_⟩
 rintro⟨n,x⟩ ⟨i,hx,hi,hn⟩
 simp only at hx hi hn
 subst hx hn
 have hxi:=ha i
 obtain⟨w,hw⟩:∃w:Nat,a.getD i 0=w:=⟨(a.getD i 0).toNat,om⟩
 obtain⟨b1,b2⟩:=bb ha i
 obtain⟨A,hA⟩:∃A:Nat,pv a i=A:=⟨(pv a i).toNat,om⟩
 have hW:(4294967296:Int)^i=((2^(32*i):Nat):Int):=by rw[Nat.pow_mul];simp
 refine condT (λhlt=>⟨⟨om,hlt⟩,?_⟩) (λhge=>?_)
 ·refine⟨λy=>∃k:Nat,y.2=k/\k<=32/\y.1=((bB (A+w % 2^k*2^(32*i)):Nat):Int),λy=>32-y.2.toNat,⟨0,rfl,om,?_⟩,?_⟩
  ·show((bB (pv a i).toNat:Nat):Int)=_
   rw[hA];simp[Nat.mod_one]
  rintro⟨n,x⟩ ⟨k,hx,hk,hn⟩
  simp only at hx hk hn
  subst hx hn
  refine condT (λhk2=>⟨⟨om,om⟩,?_⟩) (λhk2=>⟨zRg,⟨i+1,rfl,om,?_⟩,by dsimp only;omega⟩)
  ·have hpk:0<2^k:=pow_pos om
   have ed:a.getD i 0 / 2^k=((w / 2^k:Nat):Int):=by rw[hw];simp
   have hdle:w / 2^k<=w:=Nat.div_le_self _ _
   have hsucc:w % 2^(k+1)=w % 2^k+2^k*(w / 2^k % 2):=Nat.mod_pow_succ
   generalize w / 2^k=z at *
   rw[fU,toNat_natCast,ed,Jp om om]
   refine bv (λhe=>⟨zRg,zRg,zRg,zRg,⟨k+1,rfl,om,?_⟩,by dsimp only;omega⟩) (λhe=>⟨zRg,⟨k+1,rfl,om,?_⟩,by dsimp only;omega⟩)
   ·have h2:z % 2=1:=om
    show 32*(i:Int)+k+1=_
    rw[hsucc,h2,mul_one]
    have e:A+(w % 2^k+2^k)*2^(32*i)=(A+w % 2^k*2^(32*i))+2^(32*i+k):=by
     rw[Nat.add_mul,Nat.pow_add,Nat.mul_comm (2^(32*i)) (2^k)];omega
    have hlt2:A+w % 2^k*2^(32*i)<2^(32*i+k):=by
     have h3:w % 2^k<2^k:=mod_lt _ hpk
     have h4:(w % 2^k+1)*2^(32*i)<=2^k*2^(32*i):=Nat.mul_le_mul_right _ h3
     rw[Nat.pow_add,Nat.mul_comm (2^(32*i)) (2^k)]
     rw[Nat.add_mul] at h4
     omega
    rw[e,GV hlt2];omega
   ·have h2:z % 2=0:=om
    show((bB (A+w % 2^k*2^(32*i)):Nat):Int)=_
    rw[hsucc,h2,Nat.mul_zero,Nat.add_zero]
  ·obtain rfl:k=32:=om
   show((bB (A+w % 2^32*2^(32*i)):Nat):Int)=((bB (pv a (i+1)).toNat:Nat):Int)
   have hm:w % 2^32=w:=mod_eq_of_lt om
   have:(pv a (i+1)).toNat=A+w*2^(32*i):=by
    have:pv a (i+1)=((A+w*2^(32*i):Nat):Int):=by rw[pv,hA,hw,hW,natCast_add,natCast_mul]
    omega
   rw[hm,this]
 ·obtain rfl:i=a.length:=om
  exact h
theorem Hy {s:Nat} (h:s<=31):rng ((s:Int)+1):=by unfold rng;omega
theorem Jg {s:Nat} (h:s<=31):32-((s:Int)+1).toNat<32-(s:Int).toNat:=om
theorem ym {m n:Nat}:0<kD m n↔n<m:=by
 unfold kD
 by_cases h:m<n
 ·simp only[h,if_true];omega
 ·rw[if_neg h];split<;>omega
theorem wD {R k:Nat} (h:R<4294967296^k):(R:Int)=pv (lim R) k:=by
 have h1:=ii h
 have h2:=fl (aD R) h1
 rw[aM] at h2
 exact h2
theorem Cc {g:Nat} (h:g<4294967296):val [(g:Int)]=g:=by
 rw[jD (az.one om om),nf];omega
set_option maxHeartbeats 2000000 in
theorem oB {a b:List Int} {Q:List Int->List Int->Int->Prop} (ha:az a) (hb:az b) (la:a.length<=1099511627760) (lb:b.length<=1099511627760)
  (h0:val b=0->Q [] [] 8) (h:val b≠0->Q (lim (val a / val b)) (lim (val a % val b)) 0):jJ a b Q:=by
 refine dV hb (by unfold SM;omega) ?_
 have b2:=dp hb
 have w2:=aD (val b)
 have v2:=aM (val b)
 refine bv (λhc=>?_) (λhc=>?_)
 ·have:(lim (val b)).length=0:=om
  have:lim (val b)=[]:=eq_nil_of_length_eq_zero this
  rw[this,nf] at v2
  exact h0 v2.symm
 have hB:val b≠0:=by intro hh;rw[hh,cU] at hc;exact hc rfl
 replace h:=h hB
 clear h0
 obtain⟨m,hm⟩:∃m,(lim (val b)).length=m+1:=⟨(lim (val b)).length-1,om⟩
 have htop:=yd hB
 have hbd:=bO w2
 rw[v2] at hbd
 generalize hA:val a=A at *
 generalize hBv:val b=B at *
 generalize hlb:lim B=bl at *
 rw[hm] at htop hbd
 rw[Nat.add_sub_cancel] at htop
 have hwt:=w2 m
 have hml:(bl.length:Int)-1=(m:Int):=om
 obtain⟨tp,htp⟩:∃x:Nat,bl.getD m 0=x:=⟨(bl.getD m 0).toNat,om⟩
 rw[htp] at htop hwt
 have htp0:tp≠0:=om
 have c1:=pn (n:=tp)
 have c2:=nP htp0
 have c3:=po (x:=tp) om
 have c4:bB tp≠0:=by unfold bB;rw[if_neg htp0];omega
 have hPm:=fq m
 refine⟨λy=>∃s:Nat,y=s/\s<=32-bB tp,λy=>32-y.toNat,⟨0,rfl,om⟩,?_⟩
 rintro _ ⟨s,rfl,hs⟩
 have hps:=ft s
 have hsle:(2:Int)^(bB tp)*2^s<=4294967296:=by
  have e1:(2:Int)^(bB tp+s)*2^(32-(bB tp+s))=4294967296:=jd (c:=32) om
  rw[<-pow_add]
  have:=ft (32-(bB tp+s))
  have h3:=ft (bB tp+s)
  have:(2:Int)^(bB tp+s)*1<=2^(bB tp+s)*2^(32-(bB tp+s)):=mul_le_mul_of_nonneg_left om om
  omega
 have f1:(tp:Int)+1<=2^(bB tp):=by exact_mod_cast c1
 have g1:((tp:Int)+1)*2^s<=2^(bB tp)*2^s:=mul_le_mul_of_nonneg_right f1 om
 have g1':((tp:Int)+1)*2^s=tp*2^s+2^s:=by rw[add_mul];omega
 have ht0:0<=(tp:Int)*2^s:=mul_nonneg om om
 have hw32:(tp:Int)*2^s % 4294967296=tp*2^s:=Int.emod_eq_of_lt ht0 om
 rw[hml,fU,htp,toNat_natCast,wrap_u32,hw32,Jo ht0 om]
 have hs31:s<=31:=om
 have hr1:rng ((s:Int)+1):=Hy hs31
 have hr2:32-((s:Int)+1).toNat<32-((s:Int)).toNat:=Jg hs31
 refine⟨zRg,⟨om,om⟩,⟨om,om⟩,bv (λhe=>⟨hr1,⟨s+1,rfl,?_⟩,hr2⟩) (λhe=>?_)⟩
 ·
  have hlt:(tp:Int)*2^s<2147483648:=by
   rcases lt_or_le ((tp:Int)*2^s) 2147483648 with hh | hh
   ·exact hh
   ·rw[if_neg om] at he;cases he
  rcases lt_or_ge s (32-bB tp) with hh | hh
  ·omega
  ·exfalso
   have hse:s=32-bB tp:=om
   have e2:(2:Int)^(bB tp-1)*2^s=2147483648:=jd (c:=31) om
   have f2:(2:Int)^(bB tp-1)<=tp:=by exact_mod_cast c2
   have g2:(2:Int)^(bB tp-1)*2^s<=tp*2^s:=mul_le_mul_of_nonneg_right f2 om
   omega
 have hge31:2147483648<=(tp:Int)*2^s:=by
  rcases lt_or_le ((tp:Int)*2^s) 2147483648 with hh | hh
  ·rw[if_pos hh] at he;exact absurd rfl he
  ·exact hh
 clear he
 refine uD ha om om (uD w2 om om ?_)
 rw[hA,v2]
 obtain⟨A2,hA2⟩:∃A2,A2=A*2^s:=⟨_,rfl⟩
 obtain⟨B2,hB2⟩:∃B2,B2=B*2^s:=⟨_,rfl⟩
 rw[<-hA2,<-hB2]
 have hB2i:(B2:Int)=(B:Int)*2^s:=by rw[hB2];simp
 have hbm:=bb w2 m
 have hbd2:(B:Int)=pv bl m+tp*4294967296^m:=by rw[hbd,pv,htp]
 have ew1:(4294967296:Int)^(m+1)=4294967296^m*4294967296:=pow_succ ..
 have hB2lt:(B2:Int)<4294967296^(m+1):=by
  have k1:(B:Int)+1<=(tp+1)*4294967296^m:=by rw[add_mul];omega
  have k2:((B:Int)+1)*2^s<=((tp+1)*4294967296^m)*2^s:=mul_le_mul_of_nonneg_right k1 om
  have k4:(((tp:Int)+1)*2^s)*4294967296^m<=4294967296*4294967296^m:=mul_le_mul_of_nonneg_right om om
  rw[mul_right_comm] at k2
  rw[add_mul] at k2
  rw[hB2i,ew1]
  omega
 have hB2ge:2147483648*4294967296^m<=(B2:Int):=by
  have k1:(tp:Int)*4294967296^m<=B:=om
  have k2:(tp:Int)*4294967296^m*2^s<=B*2^s:=mul_le_mul_of_nonneg_right k1 om
  have k3:2147483648*4294967296^m<=(tp:Int)*2^s*4294967296^m:=mul_le_mul_of_nonneg_right hge31 om
  rw[mul_right_comm] at k2
  omega
 have hB20:0<B2:=om
 have hB2N:B2<4294967296^(m+1):=by
  have:((4294967296^(m+1):Nat):Int)=(4294967296:Int)^(m+1):=by simp
  omega
 have wA:=aD A2
 have vA:=aM A2
 have wB:=aD B2
 have hlB:(lim B2).length<=m+1:=ii hB2N
 have hLA:(lim A2).length<=1099511627762:=by
  have k1:A<4294967296^a.length:=by rw[<-hA];exact t_ ha
  have k2:A*2^s<4294967296^(a.length+1):=by
   rw[Nat.pow_succ]
   have k3:2^s<=2^32:=pow_le_pow_right om om
   exact Nat.mul_lt_mul_of_lt_of_le k1 k3 om
  rw[hA2]
  have:=ii k2
  omega
 have hBtop:=wD hB2N
 generalize hlA2:lim A2=al at *
 generalize hlB2:lim B2=bl2 at *
 obtain⟨L,hL⟩:∃L,al.length=L:=⟨_,rfl⟩
 have hApv:(A2:Int)=pv al L:=by rw[<-vA,<-hL];exact bO wA
 obtain⟨r0,hr0⟩:∃r0,r0=[]++fe al (max 0 ((al.length:Int)-(bl.length:Int)+1)) (al.length:Int):=⟨_,rfl⟩
 obtain⟨J,hJ⟩:∃J,J=L-m:=⟨_,rfl⟩
 have hr0d:r0=al.drop J:=by
  rw[hr0]
  show []++(al.drop _).take _=_
  have e:(max 0 ((al.length:Int)-(bl.length:Int)+1)).toNat=J:=om
  rw[e,List.nil_append,toNat_natCast]
  exact List.take_of_length_le zSm
 rw[<-hr0]
 refine⟨i_ om om,zRg,zRg,⟨om,om,om⟩,?_,zRg,?_⟩
 ·rw[hr0d];simp;omega
 have hr0w:az r0:=by rw[hr0d];exact wA.drop J
 have hr0l:r0.length=L-J:=by rw[hr0d,List.length_drop,hL]
 have hsplit:(A2:Int)=pv al J+val r0*4294967296^J:=by
  have k0:L=J+(L-J):=om
  rw[hApv,k0,mP,bO hr0w,hr0l,hr0d]
 have hr0B:val r0<B2:=by
  have k1:=t_ hr0w
  have k2:4294967296^r0.length<=4294967296^m:=pow_le_pow_right om om
  have k3:((4294967296^m:Nat):Int)=(4294967296:Int)^m:=by simp
  omega
 refine⟨λy=>∃j:Nat,(y.2.1=(j:Int)-1\/(j=0/\y.2.1<0))/\j<=L/\az y.1/\y.1.length<=m+1/\val y.1<B2/\y.2.2.length=L/\az y.2.2/\(∀k,k<j->y.2.2.getD k 0=0)/\(A2:Int)=pv y.2.2 L*B2+val y.1*4294967296^j+pv al j,
  λy=>(y.2.1+1).toNat,⟨J,?_,om,hr0w,by show r0.length<=_;omega,hr0B,by simp[aQ,hL],az.rep _,λk hk=>?_,?_⟩,?_⟩
 ·show(al.length:Int)-(bl.length:Int)=(J:Int)-1\/J=0/\(al.length:Int)-(bl.length:Int)<0
  rcases lt_or_ge L (m+1) with hh | hh
  ·right;omega
  ·left;omega
 ·show(replicate ((al.length:Int)).toNat (0:Int)).getD k 0=0
  rw[List.getD_eq_getElem?_getD,List.getElem?_replicate];split<;>rfl
 ·show(A2:Int)=pv (replicate ((al.length:Int)).toNat (0:Int)) L*B2+val r0*4294967296^J+pv al J
  rw[qg];omega
 clear hsplit hr0B hr0w hr0l hr0 hr0d
 clear r0
 rintro⟨r,x,q⟩ ⟨j,hx,hj,hrw,hrl,hrB,hql,hqw,hqz,hsum⟩
 simp only at hx hj hrw hrl hrB hql hqw hqz hsum
 refine condT (λhc=>?_) (λhc=>?_)
 ·obtain⟨i,rfl⟩:∃i,j=i+1:=⟨j-1,om⟩
  obtain rfl:x=(i:Int):=om
  have hai:=wA i
  rw[fU]
  have hw1:az ([al.getD i 0]++r):=(az.one hai.1 hai.2).append hrw
  refine⟨⟨om,om⟩,by simp;omega,dV hw1 (by simp[SM];omega) ?_⟩
  obtain⟨R,hRd⟩:∃R,R=val ([al.getD i 0]++r):=⟨_,rfl⟩
  rw[<-hRd]
  have hRv:(R:Int)=al.getD i 0+4294967296*val r:=by
   rw[hRd]
   have:val ([al.getD i 0]++r)=(al.getD i 0).toNat+4294967296*val r:=jD hw1
   rw[this];omega
  have hRB:R<B2*4294967296:=om
  have hRn:R<4294967296^(m+2):=by
   have k1:B2*4294967296<4294967296^(m+1)*4294967296:=Nat.mul_lt_mul_of_pos_right hB2N om
   have k2:4294967296^(m+2)=4294967296^(m+1)*4294967296:=Nat.pow_succ ..
   omega
  have hRp:=wD hRn
  have wR:=aD R
  have hlR:(lim R).length<=m+2:=ii hRn
  have vR:=aM R
  have hmb:(bl.length:Int)=((m+1:Nat):Int):=om
  rw[hmb]
  refine cC wR ⟨zRg,cC wR ⟨zRg,cC wB ?_⟩⟩
  have h1:=wR (m+1)
  have h2:=wR m
  have h3:=wB m
  have hBt:(B2:Int)=pv bl2 m+bl2.getD m 0*4294967296^m:=by rw[hBtop,pv]
  have hb2m:=bb wB m
  have hr4:0<bl2.getD m 0:=by
   rcases lt_or_le 0 (bl2.getD m 0) with hh | hh
   ·exact hh
   ·have:bl2.getD m 0=0:=om
    rw[this] at hBt;omega
  have e32:(2:Int)^toNat 32=4294967296:=rfl
  rw[e32,wrap_u64_id (m:=(lim R).getD (m+1) 0*4294967296) om om,uQ 32 h2.1 h2.2 om (by show _ % 4294967296=0;omega) om]
  generalize hhead:(lim R).getD (m+1) 0*4294967296+(lim R).getD m 0=head
  have hhead0:0<=head:=om
  have hq0:0<=head / bl2.getD m 0:=ediv_nonneg hhead0 om
  have hq1:head / bl2.getD m 0<=head:=Int.ediv_le_self _ hhead0
  rw[Int.tdiv_eq_ediv_of_nonneg hhead0,wrap_u64_id hq0 om]
  refine⟨om,gt ?_⟩
  obtain⟨g0,hg0⟩:∃g0:Nat,min (head / bl2.getD m 0) 4294967295=(g0:Int):=⟨(min (head / bl2.getD m 0) 4294967295).toNat,om⟩
  have hg0W:g0<4294967296:=om
  have hU:R<(g0+1)*B2:=by
   by_cases hcase:head / bl2.getD m 0<=4294967295
   ·have hge:head / bl2.getD m 0=g0:=om
    have k1:head<((g0:Int)+1)*bl2.getD m 0:=by
     have d1:head=bl2.getD m 0*(head / bl2.getD m 0)+head % bl2.getD m 0:=(mul_ediv_add_emod head _).symm
     have d2:head % bl2.getD m 0<bl2.getD m 0:=emod_lt_of_pos _ hr4
     rw[hge] at d1
     rw[add_mul,mul_comm];omega
    have k2:(head+1)*4294967296^m<=(((g0:Int)+1)*bl2.getD m 0)*4294967296^m:=mul_le_mul_of_nonneg_right om om
    have k3:(R:Int)=pv (lim R) m+head*4294967296^m:=by
     rw[hRp,pv,pv,ew1,<-hhead,add_mul,mul_assoc ((lim R).getD (m+1) 0),mul_comm 4294967296];omega
    have k4:=(bb wR m).2
    have k5:((g0:Int)+1)*B2=((g0:Int)+1)*pv bl2 m+(((g0:Int)+1)*bl2.getD m 0)*4294967296^m:=by rw[hBt,mul_add,mul_assoc]
    have k6:0<=((g0:Int)+1)*pv bl2 m:=mul_nonneg om hb2m.1
    have k7:(((g0+1)*B2:Nat):Int)=((g0:Int)+1)*B2:=by simp
    rw[add_mul] at k2
    omega
   ·have:g0=4294967295:=om
    subst this
    omega
  rw[hg0,wrap_u32]
  have hg0m:(g0:Int) % 4294967296=g0:=om
  rw[hg0m]
  refine zk wB (az.one om om) (by simp;omega) ?_
  have vB:val bl2=B2:=by rw[<-hlB2];exact aM B2
  rw[Cc hg0W,vB]
  refine⟨λy=>∃g:Nat,y=((g:Int),lim (B2*g))/\g<4294967296/\R<(g+1)*B2,λy=>y.1.toNat,⟨g0,rfl,hg0W,hU⟩,?_⟩
  rintro _ ⟨g,rfl,hgW,hgU⟩
  have wP:=aD (B2*g)
  have vP:=aM (B2*g)
  have hPl:(lim (B2*g)).length<=m+2:=by
   refine ii ?_
   rw[Nat.pow_succ]
   exact Nat.mul_lt_mul_of_lt_of_le hB2N om om
  refine sU wP wR (by unfold SM;omega) (by unfold SM;omega) ?_
  rw[vP,vR]
  refine condT (λhgt=>?_) (λhle=>?_)
  ·have hgt':=ym.1 hgt
   have hg1:1<=g:=by
    rcases Nat.eq_zero_or_pos g with hh | hh
    ·subst hh;simp at hgt'
    ·exact hh
   have hmul:B2*(g-1)=B2*g-B2:=by rw[Nat.mul_sub,mul_one]
   have hBle:B2<=B2*g:=Nat.le_mul_of_pos_right _ hg1
   refine sS wP wB (by unfold SM;omega) (by unfold SM;omega) (λhh=>?_) (λ_=>?_)
   ·rw[vP,vB] at hh;omega
   ·rw[vP,vB,wrap_u64_id (m:=(g:Int)-1) om om,<-hmul]
    refine⟨⟨g-1,?_,om,?_⟩,by dsimp only;omega⟩
    ·have:(g:Int)-1=((g-1:Nat):Int):=om
     rw[this]
    ·have:g-1+1=g:=om
     rw[this,Nat.mul_comm];exact hgt'
  ·have hle':B2*g<=R:=by
    rcases lt_or_ge R (B2*g) with hh | hh
    ·exact absurd (ym.2 hh) hle
    ·exact hh
   refine sS wR wP (by unfold SM;omega) (by unfold SM;omega) (λhh=>?_) (λ_=>?_)
   ·rw[vP,vR] at hh;omega
   ·rw[vP,vR,wrap_u32,fG]
    have hgm:(g:Int) % 4294967296=g:=om
    rw[hgm]
    have hRlt:R-B2*g<B2:=by rw[Nat.add_mul,Nat.mul_comm g] at hgU;omega
    have hqil:i<q.length:=om
    refine⟨⟨om,om⟩,zRg,⟨i,.inl rfl,om,aD _,?_,?_,by simp[hql],hqw.set _ om om,λk hk=>?_,?_⟩,by dsimp only;omega⟩
    ·show(lim (R-B2*g)).length<=m+1
     exact ii om
    ·show val (lim (R-B2*g))<B2
     rw[aM];exact hRlt
    ·show(q.set i _).getD k 0=0
     rw[bU om];exact hqz k om
    ·show(A2:Int)=pv (q.set i (g:Int)) L*B2+val (lim (R-B2*g))*4294967296^i+pv al i
     rw[aM,gk hqil L om,hqz i om,sub_zero,hsum,add_mul,pv,pow_succ]
     have k1:((R-B2*g:Nat):Int)=(R:Int)-B2*g:=by rw[Int.natCast_sub hle'];simp
     have k2:((R:Int)-B2*g)*4294967296^i=R*4294967296^i-g*4294967296^i*B2:=by
      generalize (4294967296:Int)^i=z
      grind
     have k3:(R:Int)*4294967296^i=al.getD i 0*4294967296^i+val r*(4294967296^i*4294967296):=by
      rw[hRv,add_mul,mul_comm 4294967296 (val r:Int),mul_assoc,mul_comm 4294967296]
     rw[k1,k2,k3]
     omega
 ·obtain rfl:j=0:=om
  have hq1:=bO hqw
  rw[hql] at hq1
  simp only[pv,Int.pow_zero,Int.mul_one,Int.add_zero] at hsum
  rw[<-hq1] at hsum
  have hsumN:A2=val q*B2+val r:=by
   have:((A2:Nat):Int)=((val q*B2+val r:Nat):Int):=by rw[natCast_add,natCast_mul];exact hsum
   omega
  have hps':0<2^s:=pow_pos om
  have hdiv:A / B=val q:=by
   have k1:A*2^s / (B*2^s)=A / B:=Nat.mul_div_mul_right _ _ hps'
   rw[<-k1,<-hA2,<-hB2,hsumN,Nat.add_comm,Nat.add_mul_div_right _ _ hB20,Nat.div_eq_of_lt hrB];omega
  have hmod:A % B=val r / 2^s:=by
   have k1:A*2^s % (B*2^s)=A % B*2^s:=Nat.mul_mod_mul_right _ _ _
   rw[<-hA2,<-hB2,hsumN,Nat.add_comm,Nat.add_mul_mod_self_right,mod_eq_of_lt hrB] at k1
   rw[k1,Nat.mul_div_cancel _ hps']
  refine dV hqw (by unfold SM;omega) (xU hrw (by unfold SM;omega) om ?_)
  rw[<-hmod,<-hdiv]
  exact h
theorem sT {a b:List Int} {Q:List Int->Prop} (ha:az a) (hb:az b) (la:a.length<=1099511627760) (lb:b.length<=1099511627760) (h:Q (lim (gcd (val a) (val b)))):lW a b Q:=by
 refine dV ha (by unfold SM;omega) (dV hb (by unfold SM;omega) ?_)
 have b1:=dp ha
 have b2:=dp hb
 refine⟨λy=>∃m n:Nat,y=(lim m,lim n)/\(lim m).length<=1099511627760/\(lim n).length<=1099511627760/\gcd m n=gcd (val a) (val b),λy=>val y.2,⟨_,_,rfl,om,om,rfl⟩,?_⟩
 rintro _ ⟨m,n,rfl,hm,hn,hg⟩
 refine condT (λhc=>?_) (λhc=>?_)
 ·have hn0:n≠0:=by rintro rfl;rw[cU] at hc;simp at hc
  refine oB (aD m) (aD n) hm hn (λh0=>absurd (by rw[aM] at h0;exact h0) hn0) (λ_=>?_)
  rw[aM,aM]
  have hlt:=mod_lt m (Nat.pos_of_ne_zero hn0)
  refine⟨⟨n,m % n,rfl,hn,le_trans (cV (Nat.le_of_lt hlt)) hn,?_⟩,?_⟩
  ·rw[<-hg,gcd_comm n,<-Nat.gcd_rec,gcd_comm]
  ·show val (lim (m % n))<val (lim n)
   rw[aM,aM];exact hlt
 ·have hn0:n=0:=by
   rcases Nat.eq_zero_or_pos n with h0 | h0
   ·exact h0
   ·rw[fJ h0] at hc;simp at hc
  subst hn0
  rw[Nat.gcd_zero_right] at hg
  rw[<-hg] at h
  exact h
theorem bQ {σ:Type} {n:Nat} (J:Nat->σ->Prop) (ix:σ->Int) (c:Int) (hix:∀i y,J i y->ix y=i+c) {x0:σ} {body:σ->(σ->Prop)->Prop} (h0:J 0 x0)
  (hs:∀i y (next:σ->Prop),i<n->J i y->(∀z,J (i+1) z->next z)->body y next) (he:∀y (next:σ->Prop),J n y->body y next):aH x0 body:=by
 refine⟨λy=>∃i,i<=n/\J i y,λy=>n-(ix y-c).toNat,⟨0,Nat.zero_le _,h0⟩,?_⟩
 rintro y ⟨i,hi,hJ⟩
 rcases lt_or_ge i n with h | h
 ·refine hs i y _ h hJ λz hz=>⟨⟨i+1,h,hz⟩,?_⟩
  have h1:=hix i y hJ
  have h2:=hix (i+1) z hz
  dsimp only
  rw[h1,h2]
  omega
 ·obtain rfl:i=n:=om
  exact he y _ hJ
theorem ig {σ:Type} {n:Nat} (f:Nat->σ) (ix:σ->Int) (c:Int) (hix:∀i,ix (f i)=i+c) {x0:σ} {body:σ->(σ->Prop)->Prop} (h0:x0=f 0)
  (hs:∀i (next:σ->Prop),i<n->next (f (i+1))->body (f i) next) (he:∀(next:σ->Prop),body (f n) next):aH x0 body:=
 bQ (λi y=>y=f i) ix c (λi y h=>by rw[h];exact hix i) h0 (λi y next hi hy hn=>hy▸hs i next hi (hn _ rfl)) (λy next hy=>hy▸he next)
theorem pF {n:Nat} (P:Nat->Prop) {E:Prop} {st:Int->(Int->Prop)->Prop} (hn:n<=9223372036854775807)
  (hs:∀(i:Nat) (next:Int->Prop),i<n->(∀j,j<i->¬P j)->(¬P i->rng ((i:Int)+1)/\next ((i:Int)+1))->st (i:Int) next)
  (he:(∀j,j<n->¬P j)->E):aH (σ:=Int) 0 (λx next=>ac (decide (x<(n:Int))) (st x next) E):=by
 refine bQ (n:=n) (λi y=>y=(i:Int)/\∀j,j<i->¬P j) (λy=>y) 0 (λi y h=>by rw[h.1,Int.add_zero]) ⟨rfl,λj hj=>absurd hj om⟩ ?_ ?_
 ·rintro i _ next hi ⟨rfl,hI⟩ hn2
  refine condT (λhc=>hs i next hi hI λhP=>⟨zRg,hn2 _ ⟨om,λj hj=>?_⟩⟩) (λhc=>absurd (show(i:Int)<n by omega) hc)
  rcases lt_or_ge j i with h1 | h1
  ·exact hI j h1
  ·obtain rfl:j=i:=om
   exact hP
 ·rintro _ next ⟨rfl,hI⟩
  exact condT (λhc=>absurd hc om) (λ_=>he hI)
def nL (g:Nat->Int):Nat->Int
 | 0=>0
 | n+1=>if nL g n=0 then g n else nL g n
theorem ea {g:Nat->Int}:∀ {n:Nat},nL g n=0↔∀i,i<n->g i=0
 | 0=>⟨λ_ i hi=>absurd hi om,λ_=>rfl⟩
 | n+1=>by
  rw[nL]
  constructor
  ·intro h i hi
   split at h
   ·rename_i h1
    rcases lt_or_ge i n with h2 | h2
    ·exact ea.1 h1 i h2
    ·obtain rfl:i=n:=om
     exact h
   ·rename_i h1;exact absurd h h1
  ·intro h
   rw[if_pos (ea.2 λi hi=>h i om)]
   exact h n om
theorem nK {g:Nat->Int} {i:Nat} (h:∀j,j<i->g j=0) (hg:g i≠0):∀n,i<n->nL g n=g i
 | 0,hn=>absurd hn om
 | n+1,hn=>by
  rw[nL]
  rcases lt_or_ge i n with h1 | h1
  ·rw[nK h hg n h1,if_neg hg]
  ·obtain rfl:i=n:=om
   rw[if_pos (ea.2 h)]
def sgn (neg:Bool) (n:Nat):Int:=if neg then -(n:Int) else n
def ay (q:Rat):GRat:=if q.num=0 then ⟨false,[],[]⟩ else ⟨decide (q.num<0),lim q.num.natAbs,lim q.den⟩
def AF (a:GRat):Rat:=mkRat (sgn a.U (val a.L)) (val a.W)
def eqR (a b:GRat):Bool:=a.U == b.U && a.L == b.L && a.W == b.W
def okR (a:GRat):Bool:=eqR a (ay (AF a))
def aF (a:GRat):Rat:=if okR a then AF a else 0
theorem ry {a b:GRat}:eqR a b=true↔a=b:=by
 cases a;cases b
 simp[eqR,and_assoc]
theorem qc {n:Int}:sgn (decide (n<0)) n.natAbs=n:=by
 unfold sgn
 by_cases h:n<0
 ·simp only[h,decide_true,if_true];omega
 ·simp only[h,decide_false,false_eq_true,if_false];omega
theorem uG (q:Rat):AF (ay q)=q:=by
 unfold ay
 by_cases h:q.num=0
 ·rw[if_pos h]
  have:q=0:=Rat.num_eq_zero.1 h
  subst this
  simp[AF,sgn,nf]
 ·rw[if_neg h]
  simp only[AF]
  rw[aM,aM,qc,Rat.mkRat_self]
theorem je (q:Rat):okR (ay q)=true:=by
 unfold okR
 rw[uG]
 exact ry.2 rfl
theorem aU (q:Rat):aF (ay q)=q:=by rw[aF,je,if_pos rfl,uG]
theorem nF {a:GRat} (h:okR a=true):a=ay (aF a):=by
 have:=ry.1 h
 rw[aF,h,if_pos rfl]
 exact this
def fH (l:List Int):Bool:=decide (0<l.length) && (l.getD (l.length-1) 0 != 0)
theorem wT {n:Nat} (h:n≠0):fH (lim n)=true:=by
 have h1:=yd h
 have h2:(lim n).length≠0:=by rw[fJ om];simp
 simp only[fH,Bool.and_eq_true,decide_eq_true_eq,bne_iff_ne]
 exact⟨om,h1⟩
theorem pe {l:List Int} (hw:az l) (h:fH l=true):lim (val l)=l/\val l≠0:=by
 simp only[fH,Bool.and_eq_true,decide_eq_true_eq,bne_iff_ne] at h
 have h1:=Cb hw (λ_=>h.2)
 refine⟨h1,λh0=>?_⟩
 rw[h0,cU] at h1
 rw[<-h1] at h
 simp at h
theorem Hw {b:Bool} {n:Nat} (h:n≠0):decide (sgn b n<0)=b:=by
 cases b
 ·simp[sgn]
 ·simp[sgn];omega
theorem tP {b:Bool} {n:Nat}:(sgn b n).natAbs=n:=by cases b<;>simp[sgn]
theorem FH {b:Bool}:sgn b 0=0:=by cases b<;>rfl
theorem Ry {b:Bool} {n:Nat} (h:n≠0):sgn b n≠0:=by
 intro h0
 have:=tP (b:=b) (n:=n)
 rw[h0] at this
 exact h (by simpa using this.symm)
theorem uJ {b:Bool} {n d:Nat} (hn:n≠0) (hd:d≠0):ay (mkRat (sgn b n) d)=⟨b,lim (n / gcd n d),lim (d / gcd n d)⟩:=by
 have e1:(mkRat (sgn b n) d).num=sgn b (n / gcd n d):=by
  rw[Rat.num_mkRat,if_neg hd,tP,gcd_comm]
  cases b
  ·simp[sgn]
  ·simp only[sgn,if_true]
   have:((gcd n d:Nat):Int) ∣ (n:Int):=Int.natCast_dvd_natCast.2 (Nat.gcd_dvd_left n d)
   rw[Int.neg_ediv_of_dvd this]
   simp
 have e2:(mkRat (sgn b n) d).den=d / gcd n d:=by rw[Rat.den_mkRat,if_neg hd,tP,gcd_comm]
 have hg:0<n / gcd n d:=Nat.div_pos (Nat.le_of_dvd om (Nat.gcd_dvd_left n d)) (Nat.gcd_pos_of_pos_left _ om)
 unfold ay
 rw[e1,e2,if_neg (Ry om),Hw om,tP]
theorem rR {b:Bool} {d:Nat}:ay (mkRat (sgn b 0) d)=⟨false,[],[]⟩:=by rw[FH,Rat.zero_mkRat];rfl
theorem xY {a:GRat} (hn:az a.L) (hd:az a.W) :
  okR a=if a.L.length=0/\a.W.length=0 then !a.U else fH a.L && (fH a.W && decide (gcd (val a.L) (val a.W)=1)):=by
 obtain⟨b,n,d⟩:=a
 simp only at hn hd ⊢
 by_cases h:n.length=0/\d.length=0
 ·rw[if_pos h]
  obtain rfl:=eq_nil_of_length_eq_zero h.1
  obtain rfl:=eq_nil_of_length_eq_zero h.2
  simp only[okR,AF,nf,rR]
  cases b<;>rfl
 ·rw[if_neg h]
  cases hp:fH n with
  | false=>
   rw[Bool.false_and]
   cases ho:okR ⟨b,n,d⟩ with
   | false=>rfl
   | true=>
    exfalso
    have e:=nF ho
    unfold ay at e
    split at e
    ·cases e;exact h ⟨rfl,rfl⟩
    ·rename_i hz
     injection e with e1 e2 e3
     rw[e2,wT om] at hp
     cases hp
  | true=>
  rw[Bool.true_and]
  cases hq:fH d with
  | false=>
   rw[Bool.false_and]
   cases ho:okR ⟨b,n,d⟩ with
   | false=>rfl
   | true=>
    exfalso
    have e:=nF ho
    unfold ay at e
    split at e
    ·cases e;exact h ⟨rfl,rfl⟩
    ·rename_i hz
     injection e with e1 e2 e3
     rw[e3,wT (Rat.den_nz _)] at hq
     cases hq
  | true=>
  rw[Bool.true_and]
  obtain⟨n1,n2⟩:=pe hn hp
  obtain⟨d1,d2⟩:=pe hd hq
  have hm:ay (AF ⟨b,n,d⟩)=⟨b,lim (val n / gcd (val n) (val d)),lim (val d / gcd (val n) (val d))⟩:=uJ n2 d2
  by_cases hg:gcd (val n) (val d)=1
  ·rw[hg] at hm
   simp only[hg,decide_true]
   rw[okR]
   refine ry.2 ?_
   rw[hm,Nat.div_one,Nat.div_one,n1,d1]
  ·simp only[hg,decide_false]
   cases ho:okR ⟨b,n,d⟩ with
   | false=>rfl
   | true=>
    exfalso
    have e:=ry.1 ho
    rw[hm] at e
    injection e with e1 e2 e3
    have e4:val n=val n / gcd (val n) (val d):=by
     have:=congrArg val e2
     rwa[aM] at this
    have hgp:0<gcd (val n) (val d):=Nat.gcd_pos_of_pos_left _ om
    have:=Nat.div_lt_self (n:=val n) om (show 1<gcd (val n) (val d) by omega)
    omega
def RB (k:Nat) (q:Rat):Prop:=q.num.natAbs<2^k/\q.den<2^k
theorem RB.mono {k l:Nat} {q:Rat} (h:RB k q) (hkl:k<=l):RB l q:=
 ⟨Nat.lt_of_lt_of_le h.1 (pow_le_pow_right om hkl),Nat.lt_of_lt_of_le h.2 (pow_le_pow_right om hkl)⟩
theorem fK {n k:Nat} (h:n<2^k):(lim n).length<=k / 32+1:=by
 refine ii (Nat.lt_of_lt_of_le h ?_)
 have:(4294967296:Nat)^(k / 32+1)=2^(32*(k / 32+1)):=by rw[Nat.pow_mul]
 rw[this]
 exact pow_le_pow_right om om
theorem nR (k:Nat) (hk:1<=k):RB k 0:=⟨by simp;exact pow_pos om,by
 have:2^1<=2^k:=pow_le_pow_right om hk
 simp;omega⟩
theorem fC {m n k l:Nat} (h:m<2^k) (h':n<2^l):m*n<2^(k+l):=by
 rw[Nat.pow_add]
 exact Nat.mul_lt_mul'' h h'
theorem vY {n:Int} {d k:Nat} (hd:d≠0) (hn:n.natAbs<2^k) (hdk:d<2^k):RB k (mkRat n d):=by
 refine⟨?_,?_⟩
 ·rw[Rat.num_mkRat,if_neg hd]
  refine Nat.lt_of_le_of_lt ?_ hn
  exact Int.natAbs_ediv_le_natAbs _ _
 ·rw[Rat.den_mkRat,if_neg hd]
  exact Nat.lt_of_le_of_lt (Nat.div_le_self _ _) hdk
theorem sF {k l:Nat} {p q:Rat} (hp:RB k p) (hq:RB l q):RB (k+l) (p*q):=by
 rw[Rat.mul_def']
 refine vY (mul_ne_zero p.den_nz q.den_nz) ?_ (fC hp.2 hq.2)
 rw[Int.natAbs_mul]
 exact fC hp.1 hq.1
theorem qA {k l:Nat} {p q:Rat} (hp:RB k p) (hq:RB l q):RB (k+l+1) (p+q):=by
 rw[Rat.add_def']
 refine vY (mul_ne_zero p.den_nz q.den_nz) ?_ (Nat.lt_of_lt_of_le (fC hp.2 hq.2) (pow_le_pow_right om om))
 have h1:(p.num*q.den).natAbs<2^(k+l):=by rw[Int.natAbs_mul];exact fC hp.1 (by simpa using hq.2)
 have h2:(q.num*p.den).natAbs<2^(k+l):=by rw[Int.natAbs_mul,Nat.add_comm k l];exact fC hq.1 (by simpa using hp.2)
 have h3:=Int.natAbs_add_le (p.num*q.den) (q.num*p.den)
 rw[Nat.pow_succ]
 omega
theorem Bd {k:Nat} {p:Rat} (hp:RB k p):RB k (-p):=⟨by simpa using hp.1,hp.2⟩
theorem U3 {k:Nat} {p:Rat} (hp:RB k p):RB k p⁻¹:=by
 by_cases h0:p.num=0
 ·have:p=0:=Rat.num_eq_zero.1 h0
  subst this
  simpa using hp
 ·refine⟨?_,?_⟩
  ·rw[Rat.num_inv,Int.natAbs_mul,Int.natAbs_sign_of_ne_zero h0,Nat.one_mul];simpa using hp.2
  ·rw[Rat.den_inv,if_neg h0];exact hp.1
theorem yw {k l:Nat} {p q:Rat} (hp:RB k p) (hq:RB l q):RB (k+l) (p / q):=by rw[Rat.div_def];exact sF hp (U3 hq)
theorem sD {k l:Nat} {p q:Rat} (hp:RB k p) (hq:RB l q):RB (k+l+1) (p-q):=by rw[Rat.sub_eq_add_neg];exact qA hp (Bd hq)
theorem Hb {k:Nat} {n:Int} (hk:1<=k) (h:n.natAbs<2^k):RB k (n:Rat):=⟨h,by
 have:2^1<=2^k:=pow_le_pow_right om hk
 show 1<2^k
 omega⟩
def Fr (a:GRat):Prop:=az a.L/\az a.W/\a.L.length<=1099511627760/\a.W.length<=1099511627760
theorem eZ {q:Rat} {k:Nat} (h:RB k q) (hk:k<=35184372088000):Fr (ay q):=by
 unfold ay
 split
 ·exact⟨az.nil,az.nil,by simp,by simp⟩
 ·have h1:=fK h.1
  have h2:=fK h.2
  exact⟨aD _,aD _,by dsimp only;omega,by dsimp only;omega⟩
theorem fL {n:Nat}:((lim n).length:Int)=0↔n=0:=by
 constructor
 ·intro h
  rcases Nat.eq_zero_or_pos n with h0 | h0
  ·exact h0
  ·rw[fJ h0] at h;simp at h;omega
 ·rintro rfl;rw[cU];rfl
theorem gQ {n:Nat}:(bB n:Int)=0↔n=0:=by
 unfold bB
 split<;>omega
theorem BL {b:Bool} {m n:Nat}:sgn b (m*n)=sgn b m*(n:Int):=by
 cases b<;>simp[sgn,natCast_mul,Int.neg_mul]
theorem ze {b c:Bool} {m n:Nat}:sgn (b != c) (m*n)=sgn b m*sgn c n:=by
 cases b<;>cases c<;>simp[sgn,natCast_mul,Int.neg_mul,Int.mul_neg,Int.neg_neg]
theorem Hx {b:Bool} {m n:Nat}:sgn b (m+n)=sgn b m+sgn b n:=by
 cases b<;>simp only[sgn,false_eq_true,if_false,if_true]<;>omega
theorem BK {b c:Bool} {m n:Nat} (hbc:¬b=c) (h:n<=m):sgn b (m-n)=sgn b m+sgn c n:=by
 cases b<;>cases c<;>first | exact absurd rfl hbc | (simp only[sgn,false_eq_true,if_false,if_true];omega)
theorem oz (q:Rat):sgn (decide (q.num<0)) q.num.natAbs=q.num:=qc
theorem xz:val [1]=1:=Cc (g:=1) om
theorem Pw:lim 1=[1]:=by rw[fJ om];simp[cU]
theorem xw:az [1]:=az.one om om
theorem dM {neg:Bool} {num den:List Int} {Q:GRat->Prop} (hn:az num) (hd:az den) (ln:num.length<=1099511627760) (ld:den.length<=1099511627760)
  (h0:val den≠0) (h:Q (ay (mkRat (sgn neg (val num)) (val den)))):cn neg num den Q:=by
 refine vg hn (by unfold SM;omega) (bv (λhc=>?_) (λhc=>?_))
 ·rw[gQ] at hc
  rw[hc,rR] at h
  exact h
 ·have hn0:val num≠0:=λhh=>hc (gQ.2 hh)
  rw[uJ hn0 h0] at h
  have hgp:gcd (val num) (val den)≠0:=Nat.ne_of_gt (Nat.gcd_pos_of_pos_left _ om)
  refine pM hn hd om om ?_
  have hgl:(lim (gcd (val num) (val den))).length<=1099511627760:=by
   refine le_trans (cV (Nat.gcd_le_left _ om)) (le_trans (dp hn) ln)
  refine mB hn (aD _) om om (λhh=>absurd (by rwa[aM] at hh) hgp) (λ_=>?_)
  refine mB hd (aD _) om om (λhh=>absurd (by rwa[aM] at hh) hgp) (λ_=>?_)
  rw[aM]
  exact h
theorem mN {a:List Int} {Q:Bool->Prop} (la:a.length<=1099511627776) (h:Q (fH a)):gI a Q:=by
 refine condT (λhc=>⟨zRg,om,?_⟩) (λhc=>?_)
 ·have e:fH a=(at' a ((a.length:Int)-1) != 0):=by
   have:(a.length:Int)-1=((a.length-1:Nat):Int):=om
   rw[this,fU]
   simp only[fH]
   rw[decide_eq_true (by omega:0<a.length),Bool.true_and]
  rw[<-e];exact h
 ·have e:fH a=false:=by
   simp only[fH]
   rw[decide_eq_false (by omega:¬0<a.length),Bool.false_and]
  rw[e] at h;exact h
theorem aJ {b:Bool} {p q:Prop} (h1:b=true->p) (h2:b=false->q):ac b p q:=⟨h1,h2⟩
theorem tE {n:Nat} {Q:Int->Prop} (hl:(lim n).length<=1099511627776) (h:Q (kD n 1)):du (lim n) [1] Q:=by
 refine fi (aD _) xw (by unfold SM;omega) (by unfold SM;simp) ?_
 rw[aM,xz]
 exact h
theorem GP {m n:Nat}:(kD m n == 0)=decide (m=n):=by
 unfold kD
 split
 ·rw[decide_eq_false om];rfl
 ·split
  ·rename_i h;rw[decide_eq_true h];rfl
  ·rename_i h;rw[decide_eq_false h];rfl
theorem fo {a:GRat} {Q:Bool->Prop} (fa:Fr a) (h:Q (okR a)):dl a Q:=by
 obtain⟨hn,hd,ln,ld⟩:=fa
 rw[xY hn hd] at h
 refine⟨λx=>x=decide (a.L.length=0/\a.W.length=0),?_,?_⟩
 ·refine bv (λhc=>?_) (λhc=>?_)
  ·by_cases hd0:a.W.length=0
   ·rw[decide_eq_true ⟨om,hd0⟩];simp;exact eq_nil_of_length_eq_zero hd0
   ·rw[decide_eq_false om];simp;intro hh;exact hd0 (by rw[hh];rfl)
  ·rw[decide_eq_false om]
 ·rintro _ rfl
  refine condT (λhc=>?_) (λhc=>?_)
  ·rw[if_pos hc] at h;exact h
  ·rw[if_neg hc] at h
   refine mN om (aJ (λhp=>?_) (λhp=>?_))
   ·rw[hp,Bool.true_and] at h
    refine mN om (aJ (λhq=>?_) (λhq=>?_))
    ·rw[hq,Bool.true_and] at h
     refine pM hn hd om om ?_
     have hgl:(lim (gcd (val a.L) (val a.W))).length<=1099511627760:=by
      refine le_trans (cV (Nat.gcd_le_left _ ?_)) (le_trans (dp hn) ln)
      have:=(pe hn hp).2
      omega
     show du (lim (gcd (val a.L) (val a.W))) [1] (λr4=>Q (r4 == 0))
     refine tE om ?_
     rw[GP]
     exact h
    ·rw[hq,Bool.false_and] at h;exact h
   ·rw[hp,Bool.false_and] at h;exact h
theorem Fh {a:GRat} (h:okR a=false):aF a=0:=by rw[aF,h];rfl
theorem uM {a:GRat} (h:okR a=true->a.L.length=0):aF a=0:=by
 cases ho:okR a with
 | false=>exact Fh ho
 | true=>
  have e:=nF ho
  have hl:=h ho
  unfold ay at e
  split at e
  ·rename_i hz;exact Rat.num_eq_zero.1 hz
  ·rename_i hz
   rw[e] at hl
   have:=fL.1 (by rw[hl];rfl)
   omega
theorem uN {a:GRat} (ho:okR a=true) (hl:a.L.length≠0):(aF a).num≠0/\a=⟨decide ((aF a).num<0),lim (aF a).num.natAbs,lim (aF a).den⟩:=by
 have e:=nF ho
 by_cases hz:(aF a).num=0
 ·exfalso
  unfold ay at e
  rw[if_pos hz] at e
  rw[e] at hl
  exact hl rfl
 ·refine⟨hz,?_⟩
  unfold ay at e
  rw[if_neg hz] at e
  exact e
theorem cr {a:GRat} {Q:Bool->List Int->List Int->Prop} (fa:Fr a) (h:Q (decide ((aF a).num<0)) (lim (aF a).num.natAbs) (lim (aF a).den)):bV a Q:=by
 refine⟨λx=>x=(!okR a || decide (a.L.length=0)),?_,?_⟩
 ·refine fo fa (aJ (λhc=>?_) (λhc=>?_))
  ·rw[hc];rfl
  ·rw[hc,Bool.false_or]
   by_cases hl:a.L.length=0
   ·rw[decide_eq_true hl];simp;exact eq_nil_of_length_eq_zero hl
   ·rw[decide_eq_false hl];simp;intro hh;exact hl (by rw[hh];rfl)
 ·rintro _ rfl
  refine aJ (λhc=>?_) (λhc=>?_)
  ·have hz:aF a=0:=uM (λho=>by rw[ho] at hc;simpa using hc)
   rw[hz] at h
   simp at h
   rw[cU,Pw] at h
   exact h
  ·simp at hc
   obtain⟨_,e⟩:=uN hc.1 (λhl=>hc.2 (eq_nil_of_length_eq_zero hl))
   rw[show a.U=decide ((aF a).num<0) from by rw[e];simp[<-e],show a.L=lim (aF a).num.natAbs from by rw[e];simp[<-e],show a.W=lim (aF a).den from by rw[e];simp[<-e]]
   exact h
theorem qz {q:Rat} {k:Nat} (h:RB k q):(lim q.num.natAbs).length<=k / 32+1/\(lim q.den).length<=k / 32+1:=⟨fK h.1,fK h.2⟩
theorem nH {m n k l:Nat} (h:m<2^k) (h':n<2^l):(lim (m*n)).length<=(k+l) / 32+1:=fK (fC h h')
theorem Js {m n k:Nat} (h:m<2^k) (h':n<2^k):(lim (m+n)).length<=(k+1) / 32+1:=fK (by rw[Nat.pow_succ];omega)
theorem G8 (p q:Rat):p+q=mkRat (sgn (decide (p.num<0)) (p.num.natAbs*q.den)+sgn (decide (q.num<0)) (q.num.natAbs*p.den)) (p.den*q.den):=by
 rw[BL,BL,oz,oz,Rat.add_def']
theorem Gw (p q:Rat):p*q=mkRat (sgn (decide (p.num<0) != decide (q.num<0)) (p.num.natAbs*q.num.natAbs)) (p.den*q.den):=by
 rw[ze,oz,oz,Rat.mul_def']
theorem GA {q:Rat} (_h:q.num≠0):q⁻¹=mkRat (sgn (decide (q.num<0)) q.den) q.num.natAbs:=by
 rw[Rat.inv_def]
 by_cases hn:q.num<0
 ·rw[decide_eq_true hn]
  have e:q.num = -((q.num.natAbs:Nat):Int):=om
  rw[<-Rat.divInt_ofNat]
  show Rat.divInt q.den q.num=Rat.divInt (-(q.den:Int)) _
  rw[<-Rat.divInt_neg',<-e]
 ·rw[decide_eq_false hn]
  have e:q.num=((q.num.natAbs:Nat):Int):=om
  rw[<-Rat.divInt_ofNat]
  show Rat.divInt q.den q.num=Rat.divInt (q.den:Int) _
  rw[<-e]
theorem zX (p:Rat) {q:Rat} (h:q.num≠0):p / q=mkRat (sgn (decide (p.num<0) != decide (q.num<0)) (p.num.natAbs*q.den)) (p.den*q.num.natAbs):=by
 rw[Rat.div_def,GA h,ze,oz]
 have:p=mkRat p.num p.den:=(Rat.mkRat_self p).symm
 rw[this,Rat.mkRat_mul_mkRat,<-this]
theorem Gv (p:Rat) : -p=mkRat (sgn (!decide (p.num<0)) p.num.natAbs) p.den:=by
 have e:sgn (!decide (p.num<0)) p.num.natAbs = -p.num:=by
  by_cases h:p.num<0
  ·rw[decide_eq_true h];simp only[sgn,Bool.not_true,false_eq_true,if_false];omega
  ·rw[decide_eq_false h];simp only[sgn,Bool.not_false,if_true];omega
 rw[e,<-Rat.neg_mkRat,Rat.mkRat_self]
theorem iC {a b:GRat} {k l:Nat} {Q:GRat->Prop} (fa:Fr a) (fb:Fr b) (ka:RB k (aF a)) (kb:RB l (aF b)) (hk:k+l+1<=35184372088000) (h:Q (ay (aF a+aF b))):bu a b Q:=by
 refine cr fa (cr fb ?_)
 generalize aF a=p at ka h ⊢
 generalize aF b=q at kb h ⊢
 have la:=qz ka
 have lb:=qz kb
 have l1:=nH ka.1 kb.2
 have l2:=nH kb.1 ka.2
 have l3:=nH ka.2 kb.2
 have hd:p.den*q.den≠0:=mul_ne_zero p.den_nz q.den_nz
 refine fh (aD _) (aD _) om (fh (aD _) (aD _) om (fh (aD _) (aD _) om ?_))
 simp only[aM]
 rw[G8] at h
 refine bv (λhs=>?_) (λhs=>?_)
 ·refine wx (aD _) (aD _) (by unfold SM;omega) ⟨om,om⟩ ?_
  simp only[aM]
  have l4:(lim (p.num.natAbs*q.den+q.num.natAbs*p.den)).length<=(k+l+1) / 32+1:=Js (fC ka.1 kb.2) (by rw[Nat.add_comm k];exact fC kb.1 ka.2)
  refine dM (aD _) (aD _) om om (by rw[aM];exact hd) ?_
  rw[aM,aM,Hx]
  rw[<-hs] at h
  exact h
 ·refine fi (aD _) (aD _) (by unfold SM;omega) (by unfold SM;omega) ?_
  simp only[aM]
  refine condT (λhc=>?_) (λhc=>?_)
  ·have hle:q.num.natAbs*p.den<=p.num.natAbs*q.den:=by
    rcases lt_or_ge (p.num.natAbs*q.den) (q.num.natAbs*p.den) with h1 | h1
    ·have:=nO.2 h1;omega
    ·exact h1
   refine pL (aD _) (aD _) (by unfold SM;omega) (by unfold SM;omega) (λhh=>by rw[aM,aM] at hh;omega) (λ_=>?_)
   simp only[aM]
   have l4:=cV (Nat.sub_le (p.num.natAbs*q.den) (q.num.natAbs*p.den))
   refine dM (aD _) (aD _) om om (by rw[aM];exact hd) ?_
   rw[aM,aM,BK hs hle]
   exact h
  ·have hle:p.num.natAbs*q.den<=q.num.natAbs*p.den:=by
    rcases lt_or_ge (p.num.natAbs*q.den) (q.num.natAbs*p.den) with h1 | h1
    ·omega
    ·exfalso
     apply hc
     unfold kD
     split
     ·omega
     ·split<;>omega
   refine pL (aD _) (aD _) (by unfold SM;omega) (by unfold SM;omega) (λhh=>by rw[aM,aM] at hh;omega) (λ_=>?_)
   simp only[aM]
   have l4:=cV (Nat.sub_le (q.num.natAbs*p.den) (p.num.natAbs*q.den))
   refine dM (aD _) (aD _) om om (by rw[aM];exact hd) ?_
   rw[aM,aM,BK (λe=>hs e.symm) hle,add_comm]
   exact h
theorem lj {a b:GRat} {k l:Nat} {Q:GRat->Prop} (fa:Fr a) (fb:Fr b) (ka:RB k (aF a)) (kb:RB l (aF b)) (hk:k+l+1<=35184372088000) (h:Q (ay (aF a*aF b))):cA a b Q:=by
 refine cr fa (cr fb ?_)
 generalize aF a=p at ka h ⊢
 generalize aF b=q at kb h ⊢
 have la:=qz ka
 have lb:=qz kb
 have l1:=nH ka.1 kb.1
 have l3:=nH ka.2 kb.2
 have hd:p.den*q.den≠0:=mul_ne_zero p.den_nz q.den_nz
 refine fh (aD _) (aD _) om (fh (aD _) (aD _) om ?_)
 simp only[aM]
 refine dM (aD _) (aD _) om om (by rw[aM];exact hd) ?_
 rw[aM,aM,<-Gw]
 exact h
theorem lk {a b:GRat} {k l:Nat} {Q:GRat->Option Int->Prop} (fa:Fr a) (fb:Fr b) (ka:RB k (aF a)) (kb:RB l (aF b)) (hk:k+l+1<=35184372088000)
  (h0:aF b=0->Q (ay 0) (some 8)) (h:aF b≠0->Q (ay (aF a / aF b)) none):ez a b Q:=by
 refine cr fa (cr fb ?_)
 generalize aF a=p at ka h ⊢
 generalize aF b=q at kb h h0 ⊢
 have la:=qz ka
 have lb:=qz kb
 have l1:=nH ka.1 kb.2
 have l3:=nH ka.2 kb.1
 refine bv (λhc=>?_) (λhc=>?_)
 ·rw[fL] at hc
  exact h0 (Rat.num_eq_zero.1 om)
 ·have hq:q.num≠0:=λhh=>hc (fL.2 om)
  have hd:p.den*q.num.natAbs≠0:=mul_ne_zero p.den_nz om
  refine fh (aD _) (aD _) om (fh (aD _) (aD _) om ?_)
  simp only[aM]
  refine dM (aD _) (aD _) om om (by rw[aM];exact hd) ?_
  rw[aM,aM,<-zX p hq]
  exact h (λhh=>hq (by rw[hh];rfl))
theorem uH {a:GRat} {k:Nat} {Q:GRat->Prop} (fa:Fr a) (ka:RB k (aF a)) (hk:k<=35184372088000) (h:Q (ay (-aF a))):li a Q:=by
 refine cr fa ?_
 generalize aF a=p at ka h ⊢
 have la:=qz ka
 refine dM (aD _) (aD _) om om (by rw[aM];exact p.den_nz) ?_
 rw[aM,aM,<-Gv]
 exact h
theorem lh {a b:GRat} {k l:Nat} {Q:GRat->Prop} (fa:Fr a) (fb:Fr b) (ka:RB k (aF a)) (kb:RB l (aF b)) (hk:k+l+1<=35184372088000) (h:Q (ay (aF a-aF b))):cg a b Q:=by
 refine⟨_,uH fb kb om rfl,_,iC fa (eZ (Bd kb) om) ka (by rw[aU];exact Bd kb) hk rfl,?_⟩
 rw[aU,<-Rat.sub_eq_add_neg]
 exact h
def gi (q:Rat):Int:=if q.num=0 then 0 else if q.num<0 then -1 else 1
theorem da {a:GRat} {Q:Int->Prop} (fa:Fr a) (h:Q (gi (aF a))):bh a Q:=by
 refine cr fa ?_
 generalize aF a=p at h ⊢
 unfold gi at h
 refine bv (λhc=>?_) (λhc=>?_)
 ·rw[fL] at hc
  rw[if_pos om] at h;exact h
 ·have hq:p.num≠0:=λhh=>hc (fL.2 om)
  rw[if_neg hq] at h
  refine condT (λhs=>?_) (λhs=>?_)
  ·rw[if_pos hs] at h;exact h
  ·rw[if_neg hs] at h;exact h
theorem uI {a b:GRat} {k l:Nat} {Q:Int->Prop} (fa:Fr a) (fb:Fr b) (ka:RB k (aF a)) (kb:RB l (aF b)) (hk:k+l+1<=35184372088000) (h:Q (gi (aF a-aF b))):eB a b Q:=by
 refine lh fa fb ka kb hk (da (eZ (sD ka kb) hk) ?_)
 rw[aU]
 exact h
theorem tv {n:Int} {Q:List Int->Prop} (hn:rng n) (h:Q (lim n.natAbs)):jU n Q:=by
 refine bv (λhc=>?_) (λhc=>?_)
 ·subst hc
  have:lim (Int.natAbs (-9223372036854775808))=[0,2147483648]:=by
   rw[show Int.natAbs (-9223372036854775808)=9223372036854775808 from rfl,fJ om,fJ om]
   simp[cU]
  rw[this] at h
  exact h
 ·unfold rng at hn ⊢
  refine⟨om,rb om ?_⟩
  have:(max n (-n)).toNat=n.natAbs:=om
  rw[this]
  exact h
theorem ju {n:Int} {Q:GRat->Prop} (hn:rng n) (h:Q (ay (n:Rat))):bW n Q:=by
 refine tv hn ?_
 show cn _ _ [1] _
 have hl:(lim n.natAbs).length<=64 / 32+1:=fK (by unfold rng at hn;omega)
 refine dM (aD _) xw om zSm (by rw[xz];omega) ?_
 rw[aM,xz,qc,show mkRat n 1=(n:Rat) from Rat.mkRat_self (n:Rat)]
 exact h
theorem xS {neg:Bool} {num den:List Int} {Q:GRat->Int->Prop} (hn:az num) (hd:az den) (ln:num.length<=1099511627760) (ld:den.length<=1099511627760)
  (h8:val den=0->Q (ay 0) 8) (h:val den≠0->Q (ay (mkRat (sgn neg (val num)) (val den))) 0):nA neg num den Q:=by
 refine nC hd (by unfold SM;omega) (bv (λhc=>?_) (λhc=>?_))
 ·exact h8 (gQ.1 hc)
 have h0:val den≠0:=λhh=>hc (gQ.2 hh)
 replace h:=h h0
 refine nC hn (by unfold SM;omega) (bv (λhc=>?_) (λhc=>?_))
 ·rw[gQ] at hc
  rw[hc,rR] at h
  exact h
 ·have hn0:val num≠0:=λhh=>hc (gQ.2 hh)
  rw[uJ hn0 h0] at h
  have hgp:gcd (val num) (val den)≠0:=Nat.ne_of_gt (Nat.gcd_pos_of_pos_left _ om)
  refine sT hn hd om om ?_
  have hgl:(lim (gcd (val num) (val den))).length<=1099511627760:=by
   refine le_trans (cV (Nat.gcd_le_left _ om)) (le_trans (dp hn) ln)
  refine oB hn (aD _) om om (λhh=>absurd (by rwa[aM] at hh) hgp) (λ_=>?_)
  refine oB hd (aD _) om om (λhh=>absurd (by rwa[aM] at hh) hgp) (λ_=>?_)
  rw[aM]
  exact h
theorem GU {n:Nat}:((bB n:Int) == 1)=decide (n=1):=by
 have h:(bB n:Int)=1↔n=1:=by
  constructor
  ·intro h
   have a:=pn (n:=n)
   rw[show bB n=1 by omega] at a
   have:n≠0:=by rintro rfl;rw[xp] at h;omega
   omega
  ·rintro rfl;rfl
 by_cases hn:n=1
 ·rw[decide_eq_true hn];simpa using h.2 hn
 ·rw[decide_eq_false hn];simpa using λe=>hn (h.1 e)
theorem pH {a:GRat} {Q:Bool->Prop} (fa:Fr a) (h:Q (okR a)):jr a Q:=by
 obtain⟨hn,hd,ln,ld⟩:=fa
 rw[xY hn hd] at h
 have hpb:∀l:List Int,l.length≠0->l.length<=1099511627760->rng ((l.length:Int)-1)/\((0:Int)<=((l.length:Int)-1)/\((l.length:Int)-1)<(l.length:Int))/\fH l=(at' l ((l.length:Int)-1) != 0):=λl hl hl2=>by
  have:(l.length:Int)-1=((l.length-1:Nat):Int):=om
  refine⟨zRg,om,?_⟩
  rw[this,fU]
  simp only[fH]
  rw[decide_eq_true (by omega:0<l.length),Bool.true_and]
 have hpn:∀l:List Int,l.length=0->fH l=false:=λl hl=>by
  simp only[fH]
  rw[decide_eq_false (by omega:¬0<l.length),Bool.false_and]
 refine⟨λx=>x=decide (a.L.length=0\/a.W.length=0),?_,?_⟩
 ·refine bv (λhc=>?_) (λhc=>?_)
  ·rw[decide_eq_true om]
  ·by_cases hd0:a.W.length=0
   ·rw[decide_eq_true om];simp;exact eq_nil_of_length_eq_zero hd0
   ·rw[decide_eq_false om];simp;intro hh;exact hd0 (by rw[hh];rfl)
 ·rintro _ rfl
  refine condT (λhc=>?_) (λhc=>?_)
  ·refine bv (λh1=>bv (λh2=>?_) (λh2=>?_)) (λh1=>?_)
   ·rw[if_pos om] at h;exact h
   ·rw[if_neg om,hpn _ (by omega:a.L.length=0),Bool.false_and] at h;exact h
   ·rw[if_neg om,hpn a.W om,Bool.false_and,Bool.and_false] at h;exact h
  ·obtain⟨r1,r2,r3⟩:=hpb a.L om ln
   obtain⟨s1,s2,s3⟩:=hpb a.W om ld
   rw[if_neg om] at h
   refine⟨r1,r2,?_⟩
   rw[<-r3]
   refine aJ (λhp=>⟨s1,s2,?_⟩) (λhp=>?_)
   ·rw[hp,Bool.true_and] at h
    rw[<-s3]
    refine aJ (λhq=>?_) (λhq=>?_)
    ·rw[hq,Bool.true_and] at h
     refine sT hn hd om om ?_
     have hgl:(lim (gcd (val a.L) (val a.W))).length<=1099511627760:=by
      refine le_trans (cV (Nat.gcd_le_left _ ?_)) (le_trans (dp hn) ln)
      have:=(pe hn hp).2
      omega
     refine nC (aD _) (by unfold SM;omega) ?_
     rw[aM,GU]
     exact h
    ·rw[hq,Bool.false_and] at h;exact h
   ·rw[hp,Bool.false_and] at h;exact h
theorem wq {a:GRat} {Q:Bool->List Int->List Int->Prop} (fa:Fr a) (h:Q (decide ((aF a).num<0)) (lim (aF a).num.natAbs) (lim (aF a).den)):mu a Q:=by
 refine⟨λx=>x=(!okR a || decide (a.L.length=0)),?_,?_⟩
 ·refine pH fa (aJ (λhc=>?_) (λhc=>?_))
  ·rw[hc];rfl
  ·have hc:okR a=true:=by simpa using hc
   rw[hc,Bool.not_true,Bool.false_or]
   by_cases hl:a.L.length=0
   ·rw[decide_eq_true hl];simp;exact eq_nil_of_length_eq_zero hl
   ·rw[decide_eq_false hl];simp;intro hh;exact hl (by rw[hh];rfl)
 ·rintro _ rfl
  refine aJ (λhc=>?_) (λhc=>?_)
  ·have hz:aF a=0:=uM (λho=>by rw[ho] at hc;simpa using hc)
   rw[hz] at h
   simp at h
   rw[cU,Pw] at h
   exact h
  ·simp at hc
   obtain⟨_,e⟩:=uN hc.1 (λhl=>hc.2 (eq_nil_of_length_eq_zero hl))
   rw[show a.U=decide ((aF a).num<0) from by rw[e];simp[<-e],show a.L=lim (aF a).num.natAbs from by rw[e];simp[<-e],show a.W=lim (aF a).den from by rw[e];simp[<-e]]
   exact h
theorem xQ {a:GRat} {Q:Int->Prop} (fa:Fr a) (h:Q (gi (aF a))):ny a Q:=by
 refine wq fa ?_
 generalize aF a=p at h ⊢
 unfold gi at h
 refine bv (λhc=>?_) (λhc=>?_)
 ·rw[fL] at hc
  rw[if_pos om] at h;exact h
 ·have hq:p.num≠0:=λhh=>hc (fL.2 om)
  rw[if_neg hq] at h
  refine condT (λhs=>?_) (λhs=>?_)
  ·rw[if_pos hs] at h;exact h
  ·rw[if_neg hs] at h;exact h
theorem qN {n:Int} {Q:List Int->Prop} (hn:rng n) (h:∀l,az l->l.length=2->val l=n.natAbs->Q l):kx n Q:=by
 unfold rng at hn
 refine jh ?_
 have key:∀u:Int,u=n.natAbs->Q [(wrap .u32 u),(wrap .u32 (u / 2^(toNat 32)))]:=by
  intro u hu
  rw[wrap_u32,wrap_u32]
  have h32:(2:Int)^(toNat 32)=4294967296:=rfl
  rw[h32]
  have hw2:az [u / 4294967296 % 4294967296]:=az.one om om
  have hw:az [u % 4294967296,u / 4294967296 % 4294967296]:=by
   intro i
   match i with
   | 0=>simp;omega
   | 1=>simp;omega
   | i+2=>simp
  refine h _ hw rfl ?_
  rw[jD hw,jD hw2,nf]
  omega
 refine condT (λhc=>gt ?_) (λhc=>?_)
 ·rw[oq,oq]
  exact key _ om
 ·rw[oq]
  exact key _ om
theorem xR {n d:Int} {Q:GRat->Int->Prop} (hn:rng n) (hd:rng d) (h0:d=0->Q (ay 0) 8) (h:d≠0->Q (ay ((n:Rat) / (d:Rat))) 0):nz n d Q:=by
 refine qN hn λl1 w1 e1 v1=>qN hd λl2 w2 e2 v2=>?_
 refine xS w1 w2 om om (λhz=>?_) (λhz=>?_)
 ·exact h0 om
 ·rw[v1,v2]
  have hd0:d≠0:=om
  have e:=zX (n:Rat) (q:=(d:Rat)) (by simpa using hd0)
  simp only[Rat.num_intCast,Rat.den_intCast,mul_one,Nat.one_mul] at e
  have h2:=h hd0
  rw[e] at h2
  exact h2
theorem AE {n:Int} {Q:GRat->Prop} (hn:rng n) (h:Q (ay (n:Rat))):kY n Q:=by
 refine xR hn zRg (λhh=>absurd hh om) (λ_=>?_)
 have:(n:Rat) / ((1:Int):Rat)=n:=by
  rw[Rat.div_def]
  show(n:Rat)*(1:Rat)⁻¹=n
  rw[show(1:Rat)⁻¹=1 from(Rat.mul_one _).symm.trans (Rat.inv_mul_cancel 1 (by decide)),Rat.mul_one]
 rw[this]
 exact h
theorem GI {α:Type} [Inhabited α] {l m:List α} (hl:l.length=m.length) (h:∀i:Nat,i<l.length->at' l (i:Int)=at' m (i:Int)):l=m:=by
 refine List.ext_getElem hl λi h1 h2=>?_
 have:=h i h1
 simp only[at',toNat_natCast,List.getD_eq_getElem?_getD,List.getElem?_eq_getElem h1,List.getElem?_eq_getElem h2,Option.getD_some] at this
 exact this
instance decGRat:DecidableEq GRat:=λ_ _=>decidable_of_iff _ ry
def mF (e:Int):Option Int:=if e=0 then none else some e
def Rp (k:Nat) (a:GRat) (q:Rat):Prop:=Fr a/\aF a=q/\RB k q
def WrR (a:GRat):Prop:=az a.L/\az a.W
abbrev cap:Nat:=35184372088000
theorem Rp.of {q:Rat} {k:Nat} (h:RB k q) (hk:k<=cap):Rp k (ay q) q:=⟨eZ h hk,aU q,h⟩
theorem Rp.mono {a:GRat} {q:Rat} {k l:Nat} (h:Rp k a q) (hkl:k<=l):Rp l a q:=⟨h.1,h.2.1,h.2.2.mono hkl⟩
theorem Rp.self {a:GRat} {k:Nat} (h:Fr a) (hb:RB k (aF a)):Rp k a (aF a):=⟨h,rfl,hb⟩
theorem Rp.zero {k:Nat} (hk:1<=k) (hk2:k<=cap):Rp k (⟨false,[],[]⟩:GRat) 0:=.of (nR k hk) hk2
theorem sE {n:Int} (hn:rng n):RB 64 (n:Rat):=Hb om (by unfold rng at hn;omega)
theorem qL {q:Rat}:gi q<0↔q<0:=by
 unfold gi
 have h1:q.num<0↔q<0:=by
  have:=Rat.num_nonneg (q:=q)
  rw[<-Int.not_le,this,Rat.not_le]
 split
 ·rename_i h;rw[h] at h1;simpa using h1
 ·split
  ·rename_i h;simpa using h1.1 h
  ·rename_i h;simpa using λhh=>h (h1.2 hh)
theorem jq {q:Rat}:gi q=0↔q=0:=by
 unfold gi
 constructor
 ·intro h
  split at h
  ·rename_i h0;exact Rat.num_eq_zero.1 h0
  ·split at h<;>omega
 ·rintro rfl;rfl
theorem zf {q:Rat}:0<=gi q↔0<=q:=by rw[<-Int.not_lt,qL,Rat.not_lt]
theorem FJ {q:Rat}:0<gi q↔0<q:=by
 have h1:=@zf q
 have h2:=@jq q
 constructor
 ·intro h
  have h3:=h1.1 om
  rcases Rat.le_iff_lt_or_eq.1 h3 with h4 | h4
  ·exact h4
  ·have:=h2.2 h4.symm;omega
 ·intro h
  have h3:=h1.2 (Rat.le_of_lt h)
  have h4:gi q≠0:=λe=>by rw[h2.1 e] at h;exact Rat.lt_irrefl h
  omega
theorem sL {q:Rat}:gi q<=0↔q<=0:=by rw[<-Int.not_lt,FJ,Rat.not_lt]
theorem gf {p q:Rat}:p-q=0↔p=q:=by constructor<;>intro h<;>grind
theorem G7 {a b:GRat} {p q:Rat} {k l:Nat} {Q:GRat->Prop} (ha:Rp k a p) (hb:Rp l b q) (hk:k+l+1<=cap) (h:Rp (k+l+1) (ay (p+q)) (p+q)->Q (ay (p+q))):bu a b Q:=by
 obtain⟨fa,rfl,ka⟩:=ha
 obtain⟨fb,rfl,kb⟩:=hb
 exact iC fa fb ka kb hk (h (.of (qA ka kb) hk))
theorem oU {a b:GRat} {p q:Rat} {k l:Nat} {K:GRat->Prop} (ha:Rp k a p) (hb:Rp l b q) (hk:k+l+1<=cap) (h:Rp (k+l+1) (ay (p+q)) (p+q)->K (ay (p+q))):fk (bu a b) K:=
 ⟨_,G7 ha hb hk (λ_=>rfl),h (.of (qA ha.2.2 hb.2.2) hk)⟩
theorem Xi {a b:GRat} {p q:Rat} {k l:Nat} {Q:GRat->Prop} (ha:Rp k a p) (hb:Rp l b q) (hk:k+l+1<=cap) (h:Rp (k+l+1) (ay (p-q)) (p-q)->Q (ay (p-q))):cg a b Q:=by
 obtain⟨fa,rfl,ka⟩:=ha
 obtain⟨fb,rfl,kb⟩:=hb
 exact lh fa fb ka kb hk (h (.of (sD ka kb) hk))
theorem xJ {a b:GRat} {p q:Rat} {k l:Nat} {K:GRat->Prop} (ha:Rp k a p) (hb:Rp l b q) (hk:k+l+1<=cap) (h:Rp (k+l+1) (ay (p-q)) (p-q)->K (ay (p-q))):fk (cg a b) K:=
 ⟨_,Xi ha hb hk (λ_=>rfl),h (.of (sD ha.2.2 hb.2.2) hk)⟩
theorem YI {a b:GRat} {p q:Rat} {k l:Nat} {Q:GRat->Prop} (ha:Rp k a p) (hb:Rp l b q) (hk:k+l+1<=cap) (h:Rp (k+l) (ay (p*q)) (p*q)->Q (ay (p*q))):cA a b Q:=by
 obtain⟨fa,rfl,ka⟩:=ha
 obtain⟨fb,rfl,kb⟩:=hb
 exact lj fa fb ka kb hk (h (.of (sF ka kb) (by simp only[cap] at hk ⊢;omega)))
theorem ya {a b:GRat} {p q:Rat} {k l:Nat} {K:GRat->Prop} (ha:Rp k a p) (hb:Rp l b q) (hk:k+l+1<=cap) (h:Rp (k+l) (ay (p*q)) (p*q)->K (ay (p*q))):fk (cA a b) K:=
 ⟨_,YI ha hb hk (λ_=>rfl),h (.of (sF ha.2.2 hb.2.2) (by simp only[cap] at hk ⊢;omega))⟩
theorem Y3 {a b:GRat} {p q:Rat} {k l:Nat} {Q:GRat->Option Int->Prop} (ha:Rp k a p) (hb:Rp l b q) (hk:k+l+1<=cap) (h0:q=0->Q (ay 0) (some 8)) (h:q≠0->Rp (k+l) (ay (p / q)) (p / q)->Q (ay (p / q)) none):ez a b Q:=by
 obtain⟨fa,rfl,ka⟩:=ha
 obtain⟨fb,rfl,kb⟩:=hb
 exact lk fa fb ka kb hk h0 (λhn=>h hn (.of (yw ka kb) (by simp only[cap] at hk ⊢;omega)))
theorem S7 {a b:GRat} {p q:Rat} {k l:Nat} {K:GRat->Option Int->Prop} (ha:Rp k a p) (hb:Rp l b q) (hk:k+l+1<=cap) (hq:q≠0) (h:Rp (k+l) (ay (p / q)) (p / q)->K (ay (p / q)) none):xk (ez a b) K:=
 ⟨_,_,Y3 ha hb hk (λe=>absurd e hq) (λ_ _=>⟨rfl,rfl⟩),h (.of (yw ha.2.2 hb.2.2) (by simp only[cap] at hk ⊢;omega))⟩
theorem um {a:GRat} {p:Rat} {k:Nat} {Q:Int->Prop} (ha:Rp k a p) (h:Q (gi p)):bh a Q:=by
 obtain⟨fa,rfl,ka⟩:=ha
 exact da fa h
theorem PA {a b:GRat} {p q:Rat} {k l:Nat} {Q:Int->Prop} (ha:Rp k a p) (hb:Rp l b q) (hk:k+l+1<=cap) (h:Q (gi (p-q))):eB a b Q:=by
 obtain⟨fa,rfl,ka⟩:=ha
 obtain⟨fb,rfl,kb⟩:=hb
 exact uI fa fb ka kb hk h
theorem GQ {a b:GRat} {p q:Rat} {k l:Nat} {K:Int->Prop} (ha:Rp k a p) (hb:Rp l b q) (hk:k+l+1<=cap) (h:K (gi (p-q))):fk (eB a b) K:=⟨_,PA ha hb hk rfl,h⟩
theorem RR {n:Int} {Q:GRat->Prop} (hn:rng n) (h:Rp 64 (ay (n:Rat)) (n:Rat)->Q (ay (n:Rat))):bW n Q:=ju hn (h (.of (sE hn) (by decide)))
theorem F7 {n:Int} {K:GRat->Prop} (hn:rng n) (h:Rp 64 (ay (n:Rat)) (n:Rat)->K (ay (n:Rat))):fk (bW n) K:=⟨_,ju hn rfl,h (.of (sE hn) (by decide))⟩
theorem YA {n:Int} {Q:GRat->Prop} (hn:rng n) (h:Rp 64 (ay (n:Rat)) (n:Rat)->Q (ay (n:Rat))):kY n Q:=AE hn (h (.of (sE hn) (by decide)))
def wQ (a:GRat):Bool:=okR a && (decide (0<=aF a) && decide (aF a<=1))
theorem AU {q:Rat}:q<=1↔q.num<=(q.den:Int):=by
 rw[Rat.le_iff]
 simp
theorem tw {a:GRat} {Q:Bool->Prop} (fa:Fr a) (h:Q (wQ a)):jW a Q:=by
 refine fo fa (aJ (λhc=>?_) (λhc=>?_))
 ·unfold wQ at h
  rw[hc,Bool.true_and] at h
  have e:=nF hc
  generalize aF a=q at e h
  subst e
  by_cases hz:q.num=0
  ·have hq:q=0:=Rat.num_eq_zero.1 hz
   subst hq
   refine aJ (λ_=>fi (a:=[]) (b:=[]) (λi=>by simp) (λi=>by simp) zSm zSm ?_) (λhh=>by cases hh)
   exact h
  ·have e2:ay q=⟨decide (q.num<0),lim q.num.natAbs,lim q.den⟩:=by unfold ay;rw[if_neg hz]
   rw[e2] at fa ⊢
   refine aJ (λhn=>?_) (λhn=>?_)
   ·simp only[Bool.not_eq_true',decide_eq_false_iff_not] at hn
    refine fi fa.1 fa.2.1 (le_trans fa.2.2.1 om) (le_trans fa.2.2.2 om) ?_
    have e3:(decide (0<=q) && decide (q<=1))=decide (kD (val (lim q.num.natAbs)) (val (lim q.den))<=0):=by
     rw[aM,aM,decide_eq_true (Rat.num_nonneg.1 om),Bool.true_and]
     refine decide_eq_decide.2 ?_
     rw[AU]
     have:=@ym q.num.natAbs q.den
     omega
    rw[e3] at h
    exact h
   ·simp only[Bool.not_eq_false',decide_eq_true_eq] at hn
    rw[decide_eq_false (λhh=>by have:=Rat.num_nonneg.2 hh;omega),Bool.false_and] at h
    exact h
 ·unfold wQ at h
  rw[hc,Bool.false_and] at h
  exact h
def aB (f:Nat->Rat):Nat->Rat
 | 0=>0
 | n+1=>aB f n+f n
theorem aX {f g:Nat->Rat}:∀n,(∀i,i<n->f i=g i)->aB f n=aB g n
 | 0,_=>rfl
 | n+1,h=>by rw[aB,aB,aX n (λi hi=>h i om),h n om]
theorem rN {f:Nat->Rat} {a:Nat}:∀b,aB f (a+b)=aB f a+aB (λi=>f (a+i)) b
 | 0=>by rw[Nat.add_zero,aB,Rat.add_zero]
 | b+1=>by rw[<-Nat.add_assoc,aB,aB,rN b,Rat.add_assoc]
theorem kG {f:Nat->Rat} {c:Rat}:∀n,aB (λi=>f i*c) n=aB f n*c
 | 0=>by rw[aB,aB,Rat.zero_mul]
 | n+1=>by rw[aB,aB,kG n,Rat.add_mul]
theorem e_ {f:Nat->Rat}:∀n,(∀i,i<n->f i=0)->aB f n=0
 | 0,_=>rfl
 | n+1,h=>by rw[aB,e_ n (λi hi=>h i om),h n om,Rat.zero_add]
theorem ug {f:Nat->Rat} {B:Nat}:∀n,(∀i,i<n->RB B (f i))->RB (n*(B+1)+1) (aB f n)
 | 0,_=>nR _ om
 | n+1,h=>(qA (ug n (λi hi=>h i om)) (h n om)).mono (by rw[Nat.add_mul];omega)
def mY (k:Int) (n:Nat):Bool:=if k=0 then decide (n=0) else if k=1 then decide (n=1) else decide (1<=n/\n<=16)
def iY (f:GFormula) (i:Nat):Int:=
 if (at' f.N (i:Int)).F<0\/5<(at' f.N (i:Int)).F then 7
 else if mY (at' f.N (i:Int)).F (at' f.N (i:Int)).M.length=false then 11
 else if ∃j<(at' f.N (i:Int)).M.length,at' (at' f.N (i:Int)).M (j:Int)<0\/f.A+i<=at' (at' f.N (i:Int)).M (j:Int) then 10
 else if (at' f.N (i:Int)).F=0 then (if (at' f.N (i:Int)).K≠0/\(at' f.N (i:Int)).K≠1 then 3 else 0)
 else if (at' f.N (i:Int)).F=4 then (if (at' f.N (i:Int)).K<1\/((at' f.N (i:Int)).M.length:Int)<(at' f.N (i:Int)).K then 3 else 0)
 else if (at' f.N (i:Int)).K≠0 then 2 else 0
def rJ (f:GFormula) (a:Int):Bool:=decide (0<=f.A/\0<=a/\(a<f.A\/a-f.A<f.N.length))
def jQ (f:GFormula):Int:=
 if f.A<0\/24<f.A then 3 else if 128<f.N.length then 4
 else if nL (iY f) f.N.length≠0 then nL (iY f) f.N.length
 else if rJ f f.Z=false then 10 else 0
theorem Ah {k:Int} {n:Nat} (h:mY k n=true):n<=16:=by
 unfold mY at h
 split at h
 ·simp at h;omega
 ·split at h
  ·simp at h;omega
  ·simp at h;omega
theorem pA {k:Int} {n:Nat} {Q:Bool->Prop} (h:Q (mY k n)):gS k n Q:=by
 unfold mY at h
 refine bv (λhc=>?_) (λhc=>bv (λhc1=>?_) (λhc1=>condT (λh1=>?_) (λh1=>?_)))
 ·rw[if_pos hc] at h
  rw[show((n:Int) == 0)=decide (n=0) by rw[Bool.eq_iff_iff];simp];exact h
 ·rw[if_neg hc,if_pos hc1] at h
  rw[show((n:Int) == 1)=decide (n=1) by rw[Bool.eq_iff_iff];simp;omega];exact h
 ·rw[if_neg hc,if_neg hc1] at h
  rw[show decide ((n:Int)<=16)=decide (1<=n/\n<=16) from decide_eq_decide.2 om];exact h
 ·rw[if_neg hc,if_neg hc1,decide_eq_false om] at h;exact h
theorem pz {f:GFormula} {i:Nat} {Q:Option Int->Prop} (hi:i<f.N.length) (hV:0<=f.A/\f.A<=24) (hn:f.N.length<=128) (h:Q (mF (iY f i))):gR f i Q:=by
 unfold iY at h
 refine⟨⟨om,om⟩,λy=>y=decide ((at' f.N (i:Int)).F<0\/5<(at' f.N (i:Int)).F),?_,?_⟩
 ·exact condT (λhc=>(decide_eq_true (Or.inl hc)).symm) (λhc=>decide_eq_decide.2 ⟨Or.inr,λhh=>hh.resolve_left hc⟩)
 rintro _ rfl
 refine condT (λhc=>?_) (λhc=>?_)
 ·rw[if_pos hc] at h;exact h
 rw[if_neg hc] at h
 refine pA (aJ (λhb=>?_) (λhb=>?_))
 ·rw[if_pos (by simpa using hb)] at h;exact h
 simp only[Bool.not_eq_false'] at hb
 rw[if_neg (by rw[hb];simp)] at h
 have hl:=Ah hb
 refine pF (λj=>at' (at' f.N (i:Int)).M (j:Int)<0\/f.A+i<=at' (at' f.N (i:Int)).M (j:Int)) om (λj next hj hI hnx=>?_) (λhall=>?_)
 ·refine⟨⟨om,om⟩,λy=>y=decide (at' (at' f.N (i:Int)).M (j:Int)<0\/f.A+i<=at' (at' f.N (i:Int)).M (j:Int)),?_,?_⟩
  ·exact condT (λhc2=>(decide_eq_true (Or.inl hc2)).symm) (λhc2=>⟨zRg,decide_eq_decide.2 ⟨Or.inr,λhh=>hh.resolve_left hc2⟩⟩)
  ·rintro _ rfl
   refine condT (λhb2=>?_) (λhb2=>hnx hb2)
   rw[if_pos ⟨j,hj,hb2⟩] at h;exact h
 rw[if_neg (by rintro⟨j,hj,hb2⟩;exact hall j hj hb2)] at h
 refine bv (λh0=>?_) (λh0=>?_)
 ·rw[if_pos h0] at h
  refine⟨λy=>y=decide ((at' f.N (i:Int)).K≠0/\(at' f.N (i:Int)).K≠1),?_,?_⟩
  ·refine ga (λhk=>?_) (λhk=>?_)
   ·show((at' f.N (i:Int)).K != 1)=_
    rw[Bool.eq_iff_iff];simp[hk]
   ·rw[decide_eq_false (λhh=>hh.1 hk)]
  ·rintro _ rfl
   refine condT (λhk=>?_) (λhk=>?_)
   ·rw[if_pos hk] at h;exact h
   ·rw[if_neg hk] at h;exact h
 rw[if_neg h0] at h
 refine bv (λh4=>?_) (λh4=>?_)
 ·rw[if_pos h4] at h
  refine⟨λy=>y=decide ((at' f.N (i:Int)).K<1\/((at' f.N (i:Int)).M.length:Int)<(at' f.N (i:Int)).K),?_,?_⟩
  ·exact condT (λhk=>(decide_eq_true (Or.inl hk)).symm) (λhk=>decide_eq_decide.2 ⟨Or.inr,λhh=>hh.resolve_left hk⟩)
  ·rintro _ rfl
   refine condT (λhk=>?_) (λhk=>?_)
   ·rw[if_pos hk] at h;exact h
   ·rw[if_neg hk] at h;exact h
 rw[if_neg h4] at h
 refine ga (λhk=>?_) (λhk=>?_)
 ·rw[if_pos hk] at h;exact h
 ·rw[if_neg (λhh=>hh hk)] at h;exact h
theorem xP {f:GFormula} {i:Nat} {Q:Int->Prop} (hi:i<f.N.length) (hV:0<=f.A/\f.A<=24) (hn:f.N.length<=128) (h:Q (iY f i)):nw f i Q:=by
 unfold iY at h
 have hf7:((at' f.N (i:Int)).F≠0/\(at' f.N (i:Int)).F≠1/\(at' f.N (i:Int)).F≠2/\(at' f.N (i:Int)).F≠3/\(at' f.N (i:Int)).F≠4/\(at' f.N (i:Int)).F≠5)->Q 7:=λhh=>by
  rw[if_pos om] at h;exact h
 refine⟨⟨om,om⟩,λy=>(0<=(at' f.N (i:Int)).F/\(at' f.N (i:Int)).F<=5)/\(0<=y.1/\y.1<=1/\0<=y.2/\y.2<=16)/\∀n:Nat,mY (at' f.N (i:Int)).F n=decide (y.1<=n/\(n:Int)<=y.2),?_,?_⟩
 ·have hbig:∀n:Nat,(at' f.N (i:Int)).F≠0->(at' f.N (i:Int)).F≠1->mY (at' f.N (i:Int)).F n=decide ((1:Int)<=n/\(n:Int)<=16):=λn h0 h1=>by
   rw[mY,if_neg h0,if_neg h1];exact decide_eq_decide.2 om
  refine bv (λh0:(at' f.N (i:Int)).F=0=>⟨om,by decide,λn=>by rw[mY,if_pos h0];exact decide_eq_decide.2 (by dsimp only;omega)⟩) (λh0=>bv (λh1:(at' f.N (i:Int)).F=1=>⟨om,by decide,λn=>by rw[mY,if_neg h0,if_pos h1];exact decide_eq_decide.2 (by dsimp only;omega)⟩) (λh1=>?_))
  exact bv (λh2:(at' f.N (i:Int)).F=2=>⟨om,by decide,λn=>hbig n h0 h1⟩) (λh2=>bv (λh3:(at' f.N (i:Int)).F=3=>⟨om,by decide,λn=>hbig n h0 h1⟩) (λh3=>bv (λh4:(at' f.N (i:Int)).F=4=>⟨om,by decide,λn=>hbig n h0 h1⟩) (λh4=>bv (λh5:(at' f.N (i:Int)).F=5=>⟨om,by decide,λn=>hbig n h0 h1⟩) (λh5=>hf7 ⟨h0,h1,h2,h3,h4,h5⟩))))
 rintro⟨lo,hi2⟩ ⟨hkind,hb,hargs⟩
 dsimp only at hb hargs
 rw[if_neg om] at h
 refine condT (λ(hc:((at' f.N (i:Int)).M.length:Int)<lo)=>?_) (λ(hc:¬((at' f.N (i:Int)).M.length:Int)<lo)=>condT (λ(hc2:hi2<((at' f.N (i:Int)).M.length:Int))=>?_) (λ(hc2:¬hi2<((at' f.N (i:Int)).M.length:Int))=>?_))
 ·rw[if_pos (by rw[hargs];exact decide_eq_false om)] at h;exact h
 ·rw[if_pos (by rw[hargs];exact decide_eq_false om)] at h;exact h
 rw[if_neg (by rw[hargs,decide_eq_true om];simp)] at h
 refine pF (n:=(at' f.N (i:Int)).M.length) (λj=>at' (at' f.N (i:Int)).M (j:Int)<0\/f.A+i<=at' (at' f.N (i:Int)).M (j:Int)) om (λj next hj hI hnx=>?_) (λhall=>?_)
 ·refine⟨⟨om,show(j:Int)<((at' f.N (i:Int)).M.length:Int) by omega⟩,condT (λhc3=>?_) (λhc3=>⟨zRg,condT (λhc4=>?_) (λhc4=>hnx (by rw[not_or];exact⟨hc3,hc4⟩))⟩)⟩
  ·rw[if_pos ⟨j,hj,Or.inl hc3⟩] at h;exact h
  ·rw[if_pos ⟨j,hj,Or.inr hc4⟩] at h;exact h
 rw[if_neg (by rintro⟨j,hj,hb2⟩;exact hall j hj hb2)] at h
 refine bv (λh0=>?_) (λh0=>?_)
 ·rw[if_pos h0] at h
  refine ga (λhk=>ga (λhk1=>?_) (λhk1=>?_)) (λhk=>?_)
  ·rw[if_pos ⟨hk,hk1⟩] at h;exact h
  ·rw[if_neg (λhh=>hh.2 hk1)] at h;exact h
  ·rw[if_neg (λhh=>hh.1 hk)] at h;exact h
 rw[if_neg h0] at h
 refine bv (λh4=>?_) (λh4=>?_)
 ·rw[if_pos h4] at h
  refine condT (λhk=>?_) (λhk=>condT (λhk2=>?_) (λhk2=>?_))
  ·rw[if_pos (Or.inl hk)] at h;exact h
  ·rw[if_pos (Or.inr hk2)] at h;exact h
  ·rw[if_neg (by rw[not_or];exact⟨hk,hk2⟩)] at h;exact h
 rw[if_neg h4] at h
 refine ga (λhk=>?_) (λhk=>?_)
 ·rw[if_pos hk] at h;exact h
 ·rw[if_neg (λhh=>hh hk)] at h;exact h
theorem oa {f:GFormula} {a:Int} {Q:Bool->Prop} (ha:rng a) (h:Q (rJ f a)):kh f a Q:=by
 unfold rJ at h
 unfold rng at ha
 refine condT (λh1=>condT (λh2=>condT (λh3=>?_) (λh3=>⟨zRg,?_⟩)) (λh2=>?_)) (λh1=>?_)
 ·rw[decide_eq_true ⟨h1,h2,Or.inl h3⟩] at h;exact h
 ·rw[show decide (a-f.A<(f.N.length:Int))=decide (0<=f.A/\0<=a/\(a<f.A\/a-f.A<f.N.length)) from decide_eq_decide.2 om];exact h
 ·rw[decide_eq_false (λhh=>h2 hh.2.1)] at h;exact h
 ·rw[decide_eq_false (λhh=>h1 hh.1)] at h;exact h
theorem wo {f:GFormula} {a:Int} {Q:Bool->Prop} (ha:rng a) (h:Q (rJ f a)):mq f a Q:=oa ha h
theorem ir {e:Int}:(mF e).isSome=decide (e≠0):=by
 unfold mF
 by_cases h:e=0
 ·rw[if_pos h,decide_eq_false (λhh=>hh h)];rfl
 ·rw[if_neg h,decide_eq_true h];rfl
theorem eV {f:GFormula} {Q:Option Int->Prop} (ht:rng f.Z) (h:Q (mF (jQ f))):db f Q:=by
 unfold jQ at h
 refine⟨λy=>y=decide (f.A<0\/24<f.A),?_,?_⟩
 ·exact condT (λhc=>(decide_eq_true (Or.inl hc)).symm) (λhc=>decide_eq_decide.2 ⟨Or.inr,λhh=>hh.resolve_left hc⟩)
 rintro _ rfl
 refine condT (λhc=>?_) (λhc=>?_)
 ·rw[if_pos hc] at h;exact h
 rw[if_neg hc] at h
 refine condT (λhc2=>?_) (λhc2=>?_)
 ·rw[if_pos om] at h;exact h
 rw[if_neg om] at h
 refine pF (λi=>iY f i≠0) om (λi next hi hI hnx=>?_) (λhall=>?_)
 ·refine pz hi om om ?_
  rw[ir]
  refine condT (λhe=>?_) (λhe=>hnx he)
  rw[nK (λj hj=>Decidable.not_not.1 (hI j hj)) he _ hi,if_pos he] at h
  exact h
 ·rw[if_neg (λhh=>hh (ea.2 λj hj=>Decidable.not_not.1 (hall j hj)))] at h
  refine oa ht (aJ (λhb=>?_) (λhb=>?_))
  ·rw[if_pos (by simpa using hb)] at h;exact h
  ·rw[if_neg (by simpa using hb)] at h;exact h
theorem wp {f:GFormula} {Q:Int->Prop} (ht:rng f.Z) (h:Q (jQ f)):mr f Q:=by
 unfold jQ at h
 refine condT (λhc=>?_) (λhc=>condT (λhc1=>?_) (λhc1=>?_))
 ·rw[if_pos (Or.inl hc)] at h;exact h
 ·rw[if_pos (Or.inr hc1)] at h;exact h
 rw[if_neg om] at h
 refine condT (λhc2=>?_) (λhc2=>?_)
 ·rw[if_pos om] at h;exact h
 rw[if_neg om] at h
 refine pF (λi=>iY f i≠0) om (λi next hi hI hnx=>?_) (λhall=>?_)
 ·refine xP hi om om (ga (λhe=>?_) (λhe=>hnx (λhh=>hh he)))
  rw[nK (λj hj=>Decidable.not_not.1 (hI j hj)) he _ hi,if_pos he] at h
  exact h
 ·rw[if_neg (λhh=>hh (ea.2 λj hj=>Decidable.not_not.1 (hall j hj)))] at h
  refine wo ht (aJ (λhb=>?_) (λhb=>?_))
  ·rw[if_pos (by simpa using hb)] at h;exact h
  ·rw[if_neg (by simpa using hb)] at h;exact h
structure FG (f:GFormula):Prop where
 v0:0<=f.A
 v24:f.A<=24
 n128:f.N.length<=128
 node:∀i,i<f.N.length->iY f i=0
 top0:0<=f.Z
 top:f.Z<f.A+f.N.length
theorem lJ {f:GFormula}:jQ f=0↔FG f:=by
 unfold jQ
 constructor
 ·intro h
  split at h
  ·cases h
  split at h
  ·cases h
  split at h
  ·rename_i h3;exact absurd h h3
  split at h
  ·cases h
  rename_i h1 h2 h3 h4
  rw[Decidable.not_not] at h3
  have h5:=ea.1 h3
  simp only[rJ,Bool.not_eq_false,decide_eq_true_eq] at h4
  exact⟨om,om,om,h5,om,om⟩
 ·intro h
  rw[if_neg (by have:=h.v0;have:=h.v24;omega),if_neg (by have:=h.n128;omega),if_neg (λhh=>hh (ea.2 h.node)),if_neg]
  have:=h.v0;have:=h.top0;have:=h.top
  simp only[rJ,Bool.not_eq_false,decide_eq_true_eq]
  omega
structure NG (f:GFormula) (i:Nat):Prop where
 k0:0<=(at' f.N (i:Int)).F
 k5:(at' f.N (i:Int)).F<=5
 len:(at' f.N (i:Int)).M.length<=16
 arg:∀j:Nat,j<(at' f.N (i:Int)).M.length->0<=at' (at' f.N (i:Int)).M (j:Int)/\at' (at' f.N (i:Int)).M (j:Int)<f.A+i
 args:mY (at' f.N (i:Int)).F (at' f.N (i:Int)).M.length=true
theorem lm {f:GFormula} {i:Nat} (h:iY f i=0):NG f i:=by
 unfold iY at h
 split at h
 ·cases h
 split at h
 ·cases h
 split at h
 ·cases h
 rename_i h1 h2 h3
 refine⟨om,om,Ah (by simpa using h2),λj hj=>?_,by simpa using h2⟩
 rw[not_exists] at h3
 have:=h3 j
 simp only[hj,true_and,not_or] at this
 omega
theorem Bc {y:Int} (h0:0<=y) (h1:y<4294967296):bits .and .i64 y 1=y % 2:=by
 obtain⟨m,rfl⟩:=eq_ofNat_of_zero_le h0
 show IntKind.i64.wrap (((BitVec.ofInt 64 (m:Int)) &&& (BitVec.ofInt 64 1)).toNat:Int)=_
 rw[BitVec.toNat_and,BitVec.toNat_ofInt,BitVec.toNat_ofInt]
 have e1:((m:Int) % ((2^64:Nat):Int)).toNat=m:=om
 have e2:((1:Int) % ((2^64:Nat):Int)).toNat=1:=om
 rw[e1,e2,Nat.and_one_is_mod]
 have e3:m % 2=0\/m % 2=1:=om
 have e4:(m:Int) % 2=((m % 2:Nat):Int):=om
 rw[e4]
 rcases e3 with e | e<;>rw[e]<;>rfl
def inS (s i:Nat):Bool:=decide (s / 2^i % 2=1)
theorem UW {s k:Nat} (hx:s<4294967296):(bits .and .i64 ((s:Int) / 2^(toNat (k:Int))) 1 == 1)=inS s k:=by
 have e:((s:Int) / 2^(toNat (k:Int)))=((s / 2^k:Nat):Int):=by rw[toNat_natCast];simp
 have:=Nat.div_le_self s (2^k)
 unfold inS
 rw[e]
 generalize s / 2^k=z at this
 rw[Bc om om,Bool.eq_iff_iff]
 simp only[beq_iff_eq,decide_eq_true_eq]
 omega
def cnt (x:GNode) (v:List Bool):Nat->Nat
 | 0=>0
 | j+1=>cnt x v j+(if at' v (at' x.M (j:Int))=true then 1 else 0)
def pO (x:GNode) (n:Nat):Bool:=
 if x.F=0 then x.K == 1 else if x.F=1 then (n:Int) == 0 else if x.F=2 then (n:Int) == (x.M.length:Int) else if x.F=3 then decide ((0:Int)<n)
 else if x.F=4 then decide (x.K<=n) else Int.tmod n 2 == 1
def lZ (x:GNode) (v:List Bool):Bool:=pO x (cnt x v x.M.length)
def de (f:GFormula) (s:Nat):Nat->List Bool
 | 0=>(range f.A.toNat).map (inS s)
 | i+1=>de f s i++[lZ (at' f.N (i:Int)) (de f s i)]
def FV (f:GFormula) (s:Nat):Bool:=at' (de f s f.N.length) f.Z
theorem jC {f:GFormula} {s:Nat}:∀i,(de f s i).length=f.A.toNat+i
 | 0=>by simp[de]
 | i+1=>by rw[de,length_append,jC i];simp;omega
theorem fD {α:Type} [Inhabited α] {l m:List α} {i:Int} (h0:0<=i) (h:i<l.length):at' (l++m) i=at' l i:=by
 obtain⟨k,rfl⟩:=eq_ofNat_of_zero_le h0
 have:k<l.length:=om
 simp[at',List.getD_eq_getElem?_getD,List.getElem?_append,this]
theorem gA {α:Type} [Inhabited α] {l:List α} {x:α}:at' (l++[x]) (l.length:Int)=x:=by
 simp[at',List.getD_eq_getElem?_getD]
theorem kN {f:GFormula} {s m:Nat} {a:Int} (h0:0<=a) (h:a<f.A.toNat+m):∀n,m<=n->at' (de f s n) a=at' (de f s m) a
 | 0,hn=>by
        obtain rfl:m=0:=om
        rfl
 | n+1,hn=>by
  rcases lt_or_ge n m with h1 | h1
  ·obtain rfl:m=n+1:=om
   rfl
  ·rw[de,fD h0 (by rw[jC];omega),kN h0 h n h1]
theorem GO {x:GNode} {v:List Bool}:∀j,cnt x v j<=j
 | 0=>Nat.le_refl _
 | j+1=>by have:=GO (x:=x) (v:=v) j;rw[cnt];split<;>omega
theorem cm {α:Type} [Inhabited α] {l:List α} {i:Nat} {x:α} {j:Nat} (h:i<l.length):at' (aN l (i:Int) x) (j:Int)=if j=i then x else at' l (j:Int):=by
 simp only[at',aN,toNat_natCast,List.getD_eq_getElem?_getD,List.getElem?_set]
 by_cases hij:i=j
 ·subst hij;simp[h]
 ·rw[if_neg hij,if_neg (λe=>hij e.symm)]
theorem bJ {α:Type} {l:List α} {i:Int} {x:α}:(aN l i x).length=l.length:=by simp[aN]
theorem sg {f:GFormula} {s:Nat} {Q:List Bool->Prop} (g:FG f) (hs:s<4294967296) (h:Q (de f s f.N.length)):ji f s Q:=by
 have v0:=g.v0
 have v24:=g.v24
 have n128:=g.n128
 refine⟨zRg,⟨om,om,om,om⟩,?_⟩
 refine bQ (n:=f.A.toNat) (λi y=>y.1=(i:Int)/\y.2.length=f.A.toNat/\∀j,j<i->at' y.2 (j:Int)=inS s j) (λy=>y.1) 0 (λi y hy=>by rw[hy.1];omega) ⟨rfl,by simp[aQ],λj hj=>absurd hj om⟩ ?_ ?_
 ·rintro i ⟨x,v⟩ next hi ⟨rfl,hl,hI⟩ hn
  dsimp only at hl hI
  refine condT (λhc=>⟨⟨om,om⟩,⟨om,om⟩,zRg,hn _ ⟨rfl,by rw[bJ];exact hl,λj hj=>?_⟩⟩) (λhc=>absurd (show(i:Int)<(f.A.toNat:Int) by omega) hc)
  dsimp only
  rw[cm om]
  by_cases hji:j=i
  ·rw[if_pos hji,UW hs,hji]
  ·rw[if_neg hji];exact hI j om
 ·rintro⟨x,v⟩ next ⟨rfl,hl,hI⟩
  dsimp only at hl hI
  refine condT (λhc=>absurd hc om) (λ_=>?_)
  have hv:v=de f s 0:=by
   refine GI (by rw[jC];omega) λj hj=>?_
   rw[hI j om]
   show _=at' ((range f.A.toNat).map (inS s)) (j:Int)
   simp[at',List.getD_eq_getElem?_getD,show j<f.A.toNat by omega]
  rw[hv]
  refine ig (n:=f.N.length) (λi=>((i:Int),de f s i)) (λy=>y.1) 0 (λi=>om) rfl ?_ ?_
  ·intro i next hi hn
   have N:=lm (g.node i hi)
   have hlen:=N.len
   refine condT (λhc=>⟨⟨om,om⟩,?_⟩) (λhc=>absurd (show(i:Int)<(f.N.length:Int) by omega) hc)
   refine ig (n:=(at' f.N (i:Int)).M.length) (λj=>((cnt (at' f.N (i:Int)) (de f s i) j:Int),(j:Int))) (λy=>y.2) 0 (λj=>om) rfl ?_ ?_
   ·intro j next2 hj hn2
    have ha:=N.arg j hj
    have hcl:=GO (x:=at' f.N (i:Int)) (v:=de f s i) j
    refine condT (λhc=>⟨⟨om,om⟩,⟨ha.1,by rw[jC];omega⟩,aJ (λhb=>⟨zRg,zRg,?_⟩) (λhb=>⟨zRg,?_⟩)⟩) (λhc=>absurd (show(j:Int)<((at' f.N (i:Int)).M.length:Int) by omega) hc)
    ·rw[cnt,if_pos hb] at hn2;exact hn2
    ·rw[cnt,if_neg (by rw[hb];simp)] at hn2;exact hn2
   ·intro next2
    refine condT (λhc=>absurd hc om) (λ_=>?_)
    refine⟨λy=>y=lZ (at' f.N (i:Int)) (de f s i),?_,?_⟩
    ·have k5:=N.k5
     have k0:=N.k0
     unfold lZ pO
     refine bv (λh0=>by rw[if_pos h0]) (λh0=>bv (λh1=>by rw[if_neg h0,if_pos h1]) (λh1=>bv (λh2=>by rw[if_neg h0,if_neg h1,if_pos h2]) (λh2=>bv (λh3=>by rw[if_neg h0,if_neg h1,if_neg h2,if_pos h3]) (λh3=>bv (λh4=>by rw[if_neg h0,if_neg h1,if_neg h2,if_neg h3,if_pos h4]) (λh4=>bv (λh5=>by rw[if_neg h0,if_neg h1,if_neg h2,if_neg h3,if_neg h4]) (λh5=>?_))))))
     exact absurd (show(at' f.N (i:Int)).F=0\/(at' f.N (i:Int)).F=1\/(at' f.N (i:Int)).F=2\/(at' f.N (i:Int)).F=3\/(at' f.N (i:Int)).F=4\/(at' f.N (i:Int)).F=5 by omega) (by
      rintro(hh | hh | hh | hh | hh | hh)
      ·exact h0 hh
      ·exact h1 hh
      ·exact h2 hh
      ·exact h3 hh
      ·exact h4 hh
      ·exact h5 hh)
    ·rintro _ rfl
     refine⟨?_,zRg,hn⟩
     rw[length_append,jC,length_singleton]
     omega
  ·intro next
   exact condT (λhc=>absurd hc om) (λ_=>h)
theorem NL {n:Nat} (h:n<=24):2^n<=16777216:=le_trans (pow_le_pow_right om h) (by decide)
def wz (f:GFormula) (s:Int):Int:=if jQ f≠0 then jQ f else if s<0\/(2^f.A.toNat:Int)<=s then 3 else 0
theorem tH {f:GFormula} {s:Int} {Q:Option Int->Prop} (ht:rng f.Z) (h:Q (mF (wz f s))):ke f s Q:=by
 unfold wz at h
 refine eV ht ?_
 rw[ir]
 refine condT (λhc=>?_) (λhc=>?_)
 ·rw[if_pos hc] at h;exact h
 rw[if_neg hc] at h
 have g:=lJ.1 (Decidable.not_not.1 hc)
 have v0:=g.v0
 have v24:=g.v24
 refine⟨λy=>y=decide (s<0\/(2^f.A.toNat:Int)<=s),?_,?_⟩
 ·refine condT (λhc=>(decide_eq_true (Or.inl hc)).symm) (λhc=>⟨⟨⟨om,om⟩,?_⟩,?_⟩)
  ·have:=NL (n:=f.A.toNat) om
   have e:(2^f.A.toNat:Int)=((2^f.A.toNat:Nat):Int):=by simp
   rw[Int.one_mul,e]
   generalize 2^f.A.toNat=z at this
   unfold rng;omega
  ·rw[Int.one_mul]
   exact decide_eq_decide.2 ⟨Or.inr,λhh=>hh.resolve_left hc⟩
 ·rintro _ rfl
  refine condT (λhc2=>?_) (λhc2=>?_)
  ·rw[if_pos hc2] at h;exact h
  ·rw[if_neg hc2] at h;exact h
theorem tI {f:GFormula} {s:Int} {Q:Bool->Option Int->Prop} (ht:rng f.Z) (h1:wz f s≠0->Q false (some (wz f s))) (h2:wz f s=0->Q (FV f s.toNat) none):kg f s Q:=by
 refine tH ht ?_
 rw[ir]
 refine condT (λhc=>?_) (λhc=>?_)
 ·rw[show mF (wz f s)=some (wz f s) from if_neg hc];exact h1 hc
 ·have h3:=h2 (Decidable.not_not.1 hc)
  unfold wz at hc
  by_cases hm:jQ f≠0
  ·rw[if_pos hm] at hc;exact absurd hm hc
  rw[if_neg hm] at hc
  have g:=lJ.1 (Decidable.not_not.1 hm)
  have v0:=g.v0
  have v24:=g.v24
  have hs:0<=s/\s<(2^f.A.toNat:Int):=by
   by_cases hh:s<0\/(2^f.A.toNat:Int)<=s
   ·rw[if_pos hh] at hc;exact absurd (by decide) hc
   ·rw[not_or] at hh;exact⟨om,om⟩
  obtain⟨k,rfl⟩:=eq_ofNat_of_zero_le hs.1
  have hp:=NL (n:=f.A.toNat) om
  have hk:k<2^f.A.toNat:=by
   have:=hs.2
   exact_mod_cast this
  refine⟨_,sg g om rfl,⟨⟨g.top0,by rw[jC];have:=g.top;omega⟩,h3⟩⟩
theorem rI {f:GFormula} {s i:Nat} (v0:0<=f.A) (h:i<f.N.length):at' (de f s f.N.length) (f.A+i)=lZ (at' f.N (i:Int)) (de f s i):=by
 rw[kN (m:=i+1) om om _ om,de]
 have e:f.A+(i:Int)=((de f s i).length:Int):=by rw[jC];omega
 rw[e,gA]
theorem kO {f:GFormula} {s:Nat} {a:Int} (h0:0<=a) (h:a<f.A) (n:Nat):at' (de f s n) a=inS s a.toNat:=by
 rw[kN (m:=0) h0 om n om]
 obtain⟨k,rfl⟩:=eq_ofNat_of_zero_le h0
 show at' ((range f.A.toNat).map (inS s)) (k:Int)=_
 simp[at',List.getD_eq_getElem?_getD,show k<f.A.toNat by omega]
abbrev Asg:=Nat->Bool
def b_ (σ:Asg) (v:Nat) (b:Bool):Asg:=λi=>if i=v then b else σ i
theorem fQ {σ:Asg} {v:Nat} {b:Bool}:b_ σ v b v=b:=by simp[b_]
theorem gX {σ:Asg} {v i:Nat} {b:Bool} (h:i≠v):b_ σ v b i=σ i:=by simp[b_,h]
theorem tQ {σ:Asg} {v:Nat}:b_ σ v (σ v)=σ:=by
 funext i
 by_cases h:i=v
 ·subst h;exact fQ
 ·exact gX h
theorem BJ {α:Type} {P:List α->Prop} (h0:P []) (h1:∀l x,P l->P (l++[x])) (l:List α):P l:=by
 have h:∀m:List α,P m.reverse:=by
  intro m
  induction m with
  | nil=>exact h0
  | cons x m ih=>rw[List.reverse_cons];exact h1 _ _ ih
 have:=h l.reverse
 rwa[List.reverse_reverse] at this
def zV (N:List GDNode) (σ:Asg):List Bool:=N.foldl (λacc x=>acc++[bif σ x.Y.toNat then acc.getD x.I.toNat false else acc.getD x.E.toNat false]) [false,true]
def den (N:List GDNode) (σ:Asg) (r:Nat):Bool:=(zV N σ).getD r false
theorem qq {N:List GDNode} {x:GDNode} {σ:Asg}:zV (N++[x]) σ=zV N σ++[bif σ x.Y.toNat then den N σ x.I.toNat else den N σ x.E.toNat]:=by
 simp[zV,den,List.foldl_append]
theorem ss {σ:Asg} (N:List GDNode):(zV N σ).length=2+N.length:=by
 induction N using BJ with
 | h0=>rfl
 | h1 N x ih=>rw[qq,length_append,ih,length_append];simp;omega
theorem zZ {N:List GDNode} {x:GDNode} {σ:Asg} {r:Nat} (h:r<2+N.length):den (N++[x]) σ r=den N σ r:=by
 unfold den
 rw[qq,List.getD_eq_getElem?_getD,List.getD_eq_getElem?_getD,List.getElem?_append_left (by rw[ss];exact h)]
theorem f_ {σ:Asg} {r:Nat} {N:List GDNode} (M:List GDNode) (h:r<2+N.length):den (N++M) σ r=den N σ r:=by
 induction M using BJ with
 | h0=>simp
 | h1 M x ih=>rw[<-append_assoc,zZ (by rw[length_append];omega),ih]
theorem GM {N:List GDNode} {x:GDNode} {σ:Asg}:den (N++[x]) σ (2+N.length)=bif σ x.Y.toNat then den N σ x.I.toNat else den N σ x.E.toNat:=by
 conv=>lhs;unfold den
 rw[qq,List.getD_eq_getElem?_getD,List.getElem?_append_right (by rw[ss];omega),ss]
 simp
theorem vN {N:List GDNode} {i:Nat} {x:GDNode} {σ:Asg} (hx:N[i]? = some x) (hl:x.E.toNat<2+i) (hh:x.I.toNat<2+i):den N σ (2+i)=bif σ x.Y.toNat then den N σ x.I.toNat else den N σ x.E.toNat:=by
 obtain⟨hi,rfl⟩:=List.getElem?_eq_some_iff.1 hx
 have hlen:(N.take i).length=i:=by simp;omega
 have e:N=(N.take i++[N[i]])++N.drop (i+1):=by simp
 have hd:∀r,r<2+i->den N σ r=den (N.take i) σ r:=λr hr=>by
  conv=>lhs;rw[e]
  rw[f_ _ (by rw[length_append,hlen];omega),zZ (by rw[hlen];exact hr)]
 rw[hd _ hl,hd _ hh]
 conv=>lhs;rw[e]
 rw[f_ _ (by rw[length_append,hlen];simp)]
 have:=GM (N:=N.take i) (x:=N[i]) (σ:=σ)
 rw[hlen] at this
 exact this
theorem gu {N:List GDNode} {σ:Asg}:den N σ 0=false:=by
 have:=f_ (σ:=σ) (r:=0) (N:=[]) N zSm
 exact this.trans rfl
theorem iI {N:List GDNode} {σ:Asg}:den N σ 1=true:=by
 have:=f_ (σ:=σ) (r:=1) (N:=[]) N zSm
 exact this.trans rfl
def lvl (n:Nat) (lev:Nat->Nat) (N:List GDNode) (r:Nat):Nat:=if r<2 then n else match N[r-2]? with | some x=>lev x.Y.toNat | none=>n
theorem ie {n:Nat} {lev:Nat->Nat} {N:List GDNode} {r:Nat} (h:r<2):lvl n lev N r=n:=by simp[lvl,h]
theorem nI {n:Nat} {lev:Nat->Nat} {N:List GDNode} {i:Nat} {x:GDNode} (h:N[i]? = some x):lvl n lev N (2+i)=lev x.Y.toNat:=by
 have:¬2+i<2:=om
 simp[lvl,this,show 2+i-2=i by omega,h]
theorem rh {n:Nat} {lev:Nat->Nat} {N:List GDNode} (M:List GDNode) {r:Nat} (h:r<2+N.length):lvl n lev (N++M) r=lvl n lev N r:=by
 unfold lvl
 by_cases h2:r<2
 ·rw[if_pos h2,if_pos h2]
 ·rw[if_neg h2,if_neg h2,List.getElem?_append_left om]
structure LV (n:Nat) (lev:Nat->Nat):Prop where
 inj:∀i j,i<n->j<n->lev i=lev j->i=j
 lt:∀i,i<n->lev i<n
structure Nd (n:Nat) (lev:Nat->Nat) (N:List GDNode) (i:Nat) (x:GDNode):Prop where
 var:0<=x.Y/\x.Y<n
 lo:0<=x.E/\x.E<2+i
 hi:0<=x.I/\x.I<2+i
 ne:x.E≠x.I
 llo:lev x.Y.toNat<lvl n lev N x.E.toNat
 lhi:lev x.Y.toNat<lvl n lev N x.I.toNat
structure WT (n:Nat) (lev:Nat->Nat) (N:List GDNode):Prop where
 nd:∀(i:Nat) (x:GDNode),N[i]? = some x->Nd n lev N i x
 dis:∀(i j:Nat) (x:GDNode),N[i]? = some x->N[j]? = some x->i=j
section
variable {n:Nat} {lev:Nat->Nat} {N:List GDNode}
theorem WT.nil:WT n lev []:=⟨λi x h=>by simp at h,λi j x h=>by simp at h⟩
theorem io {r:Nat} (h:r<2+N.length):r=0\/r=1\/∃i x,r=2+i/\N[i]? = some x:=by
 by_cases h0:r=0
 ·exact .inl h0
 by_cases h1:r=1
 ·exact .inr (.inl h1)
 ·exact .inr (.inr ⟨r-2,N[r-2]'om,om,List.getElem?_eq_getElem om⟩)
theorem WT.den_at (h:WT n lev N) {i:Nat} {x:GDNode} (hx:N[i]? = some x) (σ:Asg):den N σ (2+i)=bif σ x.Y.toNat then den N σ x.I.toNat else den N σ x.E.toNat:=by
 obtain⟨_,b,c,_,_,_⟩:=h.nd i x hx
 exact vN hx om om
theorem WT.den_set (h:WT n lev N) {v:Nat} {b:Bool}:∀ {r:Nat},r<2+N.length->lev v<lvl n lev N r->∀σ,den N (b_ σ v b) r=den N σ r:=by
 intro r
 induction r using Nat.strongRecOn with
 | _ r ih=>
  intro hr hv σ
  rcases io hr with rfl | rfl | ⟨i,x,rfl,hx⟩
  ·rw[gu,gu]
  ·rw[iI,iI]
  ·obtain⟨a,b',c,_,e,f⟩:=h.nd i x hx
   have hi:=(List.getElem?_eq_some_iff.1 hx).1
   rw[nI hx] at hv
   have hne:x.Y.toNat≠v:=λhc=>by rw[hc] at hv;omega
   rw[h.den_at hx,h.den_at hx,gX hne,ih x.I.toNat om om om,ih x.E.toNat om om om]
theorem WT.lvl_le (hL:LV n lev) (h:WT n lev N) {r:Nat}:lvl n lev N r<=n:=by
 unfold lvl
 split
 ·exact Nat.le_refl _
 ·split
  ·rename_i x hx
   obtain⟨a,_,_,_,_,_⟩:=h.nd _ x hx
   exact Nat.le_of_lt (hL.lt _ om)
  ·exact Nat.le_refl _
theorem WT.den_cof (h:WT n lev N) {i:Nat} {x:GDNode} (hx:N[i]? = some x) (σ:Asg) (b:Bool):den N (b_ σ x.Y.toNat b) (2+i)=den N σ (bif b then x.I.toNat else x.E.toNat):=by
 obtain⟨_,b',c,_,e,f⟩:=h.nd i x hx
 have hi:=(List.getElem?_eq_some_iff.1 hx).1
 rw[h.den_at hx,fQ]
 cases b
 ·exact h.den_set om e σ
 ·exact h.den_set om f σ
theorem WT.canon (hL:LV n lev) (h:WT n lev N) {r s:Nat} (hr:r<2+N.length) (hs:s<2+N.length) (he:∀σ,den N σ r=den N σ s):r=s:=by
 have key:∀b r s,r<b->s<b->r<2+N.length->s<2+N.length->(∀σ,den N σ r=den N σ s)->r=s:=by
  intro b
  induction b with
  | zero=>intro r s h1;omega
  | succ b ih=>
   have step:∀i x s,N[i]? = some x->2+i<b+1->s<2+N.length->lev x.Y.toNat<lvl n lev N s->(∀σ,den N σ (2+i)=den N σ s)->False:=by
    intro i x s hx hib hs hl he
    obtain⟨a,b',c,d,e,f⟩:=h.nd i x hx
    have hi:=(List.getElem?_eq_some_iff.1 hx).1
    have:x.E.toNat=x.I.toNat:=ih _ _ om om om om λσ=>by
     have h1:=h.den_cof hx σ false
     have h2:=h.den_cof hx σ true
     rw[he,h.den_set hs hl] at h1 h2
     exact h1.symm.trans h2
    omega
   intro r s h1 h2 hr hs he
   rcases io hr with rfl | rfl | ⟨i,x,rfl,hx⟩
   ·rcases io hs with rfl | rfl | ⟨j,y,rfl,hy⟩
    ·rfl
    ·have:=he (λ_=>false);rw[gu,iI] at this;cases this
    ·exact(step j y 0 hy h2 hr (by rw[ie om];exact hL.lt _ (by have:=(h.nd j y hy).var;omega)) (λσ=>(he σ).symm)).elim
   ·rcases io hs with rfl | rfl | ⟨j,y,rfl,hy⟩
    ·have:=he (λ_=>false);rw[gu,iI] at this;cases this
    ·rfl
    ·exact(step j y 1 hy h2 hr (by rw[ie om];exact hL.lt _ (by have:=(h.nd j y hy).var;omega)) (λσ=>(he σ).symm)).elim
   ·by_cases hl:lev x.Y.toNat<lvl n lev N s
    ·exact(step i x s hx h1 hs hl he).elim
    ·rcases io hs with rfl | rfl | ⟨j,y,rfl,hy⟩
     ·exact(hl (by rw[ie om];exact hL.lt _ (by have:=(h.nd i x hx).var;omega))).elim
     ·exact(hl (by rw[ie om];exact hL.lt _ (by have:=(h.nd i x hx).var;omega))).elim
     ·by_cases hl2:lev y.Y.toNat<lvl n lev N (2+i)
      ·exact(step j y (2+i) hy h2 hr hl2 (λσ=>(he σ).symm)).elim
      ·rw[nI hx] at hl2
       rw[nI hy] at hl
       obtain⟨a,b',c,d,e,f⟩:=h.nd i x hx
       obtain⟨a2,b2,c2,d2,e2,f2⟩:=h.nd j y hy
       have hi:=(List.getElem?_eq_some_iff.1 hx).1
       have hj:=(List.getElem?_eq_some_iff.1 hy).1
       have hv:x.Y.toNat=y.Y.toNat:=hL.inj _ _ om om om
       have q1:x.E.toNat=y.E.toNat:=ih _ _ om om om om λσ=>by
        have p1:=h.den_cof hx σ false
        have p2:=h.den_cof hy σ false
        rw[hv,he] at p1
        exact p1.symm.trans p2
       have q2:x.I.toNat=y.I.toNat:=ih _ _ om om om om λσ=>by
        have p1:=h.den_cof hx σ true
        have p2:=h.den_cof hy σ true
        rw[hv,he] at p1
        exact p1.symm.trans p2
       have hxy:x=y:=by
        cases x;cases y
        simp only[GDNode.mk.injEq]
        simp only at *
        omega
       subst hxy
       rw[h.dis i j x hx hy]
 exact key (max r s+1) r s om om hr hs he
theorem WT.snoc (h:WT n lev N) {x:GDNode} (hv:0<=x.Y/\x.Y<n) (hlo:0<=x.E/\x.E<2+N.length) (hhi:0<=x.I/\x.I<2+N.length) (hne:x.E≠x.I) (h1:lev x.Y.toNat<lvl n lev N x.E.toNat) (h2:lev x.Y.toNat<lvl n lev N x.I.toNat)
  (hnew:x∉N):WT n lev (N++[x]):=by
 refine⟨λi y hy=>?_,λi j y hi hj=>?_⟩
 ·rcases lt_or_ge i N.length with hi | hi
  ·rw[List.getElem?_append_left hi] at hy
   obtain⟨a,b,c,d,e,f⟩:=h.nd i y hy
   exact⟨a,b,c,d,by rw[rh _ om];exact e,by rw[rh _ om];exact f⟩
  ·have hil:i<(N++[x]).length:=(List.getElem?_eq_some_iff.1 hy).1
   simp only[length_append,length_singleton] at hil
   obtain rfl:i=N.length:=om
   rw[List.getElem?_append_right (Nat.le_refl _)] at hy
   simp at hy
   subst hy
   exact⟨hv,hlo,hhi,hne,by rw[rh _ om];exact h1,by rw[rh _ om];exact h2⟩
 ·have hil:i<(N++[x]).length:=(List.getElem?_eq_some_iff.1 hi).1
  have hjl:j<(N++[x]).length:=(List.getElem?_eq_some_iff.1 hj).1
  simp only[length_append,length_singleton] at hil hjl
  by_cases hi':i<N.length
  ·rw[List.getElem?_append_left hi'] at hi
   by_cases hj':j<N.length
   ·rw[List.getElem?_append_left hj'] at hj
    exact h.dis i j y hi hj
   ·obtain rfl:j=N.length:=om
    rw[List.getElem?_append_right (Nat.le_refl _)] at hj
    simp at hj
    subst hj
    exact absurd (List.mem_of_getElem? hi) hnew
  ·obtain rfl:i=N.length:=om
   rw[List.getElem?_append_right (Nat.le_refl _)] at hi
   simp at hi
   subst hi
   by_cases hj':j<N.length
   ·rw[List.getElem?_append_left hj'] at hj
    exact absurd (List.mem_of_getElem? hj) hnew
   ·omega
end
instance:DecidableEq GDNode:=λa b=>decidable_of_iff (a.Y=b.Y/\a.E=b.E/\a.I=b.I) (by cases a;cases b;simp)
def mkD (v lo hi:Nat) (N:List GDNode):List GDNode×Nat:=
 if lo=hi then (N,lo) else if (⟨v,lo,hi⟩:GDNode)∈N then (N,2+N.idxOf ⟨v,lo,hi⟩) else (N++[⟨v,lo,hi⟩],2+N.length)
def dc:List Nat->(Asg->Bool)->List GDNode->List GDNode×Nat
 | [],f,N=>(N,if f (λ_=>false)=true then 1 else 0)
 | v :: vs,f,N=>mkD v (dc vs (λσ=>f (b_ σ v false)) N).2 (dc vs (λσ=>f (b_ σ v true)) (dc vs (λσ=>f (b_ σ v false)) N).1).2 (dc vs (λσ=>f (b_ σ v true)) (dc vs (λσ=>f (b_ σ v false)) N).1).1
def Dep (f:Asg->Bool) (vs:List Nat):Prop:=∀σ σ':Asg,(∀v∈vs,σ v=σ' v)->f σ=f σ'
structure OrdL (n:Nat) (lev:Nat->Nat) (ord:List Nat):Prop where
 lv:LV n lev
 len:ord.length=n
 at_:∀i v,ord[i]? = some v->v<n/\lev v=i
 of:∀v,v<n->ord[lev v]? = some v
theorem OrdL.drop {n:Nat} {lev:Nat->Nat} {ord:List Nat} (h:OrdL n lev ord) {v:Nat} (hv:v<n):ord.drop (lev v)=v :: ord.drop (lev v+1):=by
 have h1:=h.of v hv
 obtain⟨hl,he⟩:=List.getElem?_eq_some_iff.1 h1
 rw[List.drop_eq_getElem_cons hl,he]
theorem OrdL.mem {n:Nat} {lev:Nat->Nat} {ord:List Nat} (h:OrdL n lev ord) {l v:Nat}:v∈ord.drop l↔v<n/\l<=lev v:=by
 constructor
 ·intro hm
  obtain⟨i,hi⟩:=List.mem_iff_getElem?.1 hm
  rw[List.getElem?_drop] at hi
  obtain⟨a,b⟩:=h.at_ _ _ hi
  exact⟨a,om⟩
 ·rintro⟨hv,hl⟩
  refine List.mem_iff_getElem?.2 ⟨lev v-l,?_⟩
  rw[List.getElem?_drop,show l+(lev v-l)=lev v by omega]
  exact h.of v hv
theorem Dep.sub {f:Asg->Bool} {vs ws:List Nat} (h:Dep f vs) (hs:∀v∈vs,v∈ws):Dep f ws:=λσ σ' hh=>h σ σ' λv hv=>hh v (hs v hv)
theorem Dep.set {f:Asg->Bool} {v:Nat} {vs:List Nat} {b:Bool} (h:Dep f (v :: vs)):Dep (λσ=>f (b_ σ v b)) vs:=λσ σ' hh=>h _ _ λw hw=>by
 by_cases he:w=v
 ·subst he;rw[fQ,fQ]
 ·rw[gX he,gX he];exact hh w ((List.mem_cons.1 hw).resolve_left he)
theorem Dep.not {f:Asg->Bool} {v:Nat} {vs:List Nat} (h:Dep f vs) (hv:v∉vs) (σ:Asg) (b:Bool):f (b_ σ v b)=f σ:=h _ _ λw hw=>gX (λhe=>hv (he▸hw))
section
variable {n:Nat} {lev:Nat->Nat} {ord:List Nat} {N:List GDNode}
theorem WT.dep (hO:OrdL n lev ord) (h:WT n lev N) {r:Nat} (hr:r<2+N.length):Dep (λσ=>den N σ r) (ord.drop (lvl n lev N r)):=by
 induction r using Nat.strongRecOn with
 | _ r ih=>
  rcases io hr with rfl | rfl | ⟨i,x,rfl,hx⟩
  ·exact λσ σ' _=>by simp only[gu]
  ·exact λσ σ' _=>by simp only[iI]
  ·obtain⟨a,b,c,d,e,f⟩:=h.nd i x hx
   have hi:=(List.getElem?_eq_some_iff.1 hx).1
   intro σ σ' hh
   rw[nI hx] at hh
   simp only[h.den_at hx]
   rw[hh x.Y.toNat (hO.mem.2 ⟨om,Nat.le_refl _⟩)]
   have q1:=ih x.E.toNat om om σ σ' (λv hv=>hh v (hO.mem.2 ⟨(hO.mem.1 hv).1,by have:=(hO.mem.1 hv).2;omega⟩))
   have q2:=ih x.I.toNat om om σ σ' (λv hv=>hh v (hO.mem.2 ⟨(hO.mem.1 hv).1,by have:=(hO.mem.1 hv).2;omega⟩))
   simp only at q1 q2
   rw[q1,q2]
theorem WT.top (hO:OrdL n lev ord) (h:WT n lev N) {i:Nat} {x:GDNode} (hx:N[i]? = some x) (hd:∀σ b,den N (b_ σ x.Y.toNat b) (2+i)=den N σ (2+i)):False:=by
 obtain⟨a,b,c,d,e,f⟩:=h.nd i x hx
 have hi:=(List.getElem?_eq_some_iff.1 hx).1
 have:=h.canon hO.lv (r:=x.E.toNat) (s:=x.I.toNat) om om λσ=>by
  have h1:=h.den_cof hx σ false
  have h2:=h.den_cof hx σ true
  rw[hd] at h1 h2
  exact h1.symm.trans h2
 omega
theorem WT.lvl_ge (hO:OrdL n lev ord) (h:WT n lev N) {r l:Nat} (hr:r<2+N.length) (hl:l<=n) (hd:Dep (λσ=>den N σ r) (ord.drop l)):l<=lvl n lev N r:=by
 rcases io hr with rfl | rfl | ⟨i,x,rfl,hx⟩
 ·rw[ie om];exact hl
 ·rw[ie om];exact hl
 ·rw[nI hx]
  rcases lt_or_ge (lev x.Y.toNat) l with hlt | hge
  ·exfalso
   refine h.top hO hx λσ b=>hd.not (λhm=>?_) σ b
   have:=(hO.mem.1 hm).2
   omega
  ·exact hge
theorem m_ (hO:OrdL n lev ord) (h:WT n lev N):∀(k l:Nat),l+k=n->∀ {f:Asg->Bool} {r:Nat},Dep f (ord.drop l)->r<2+N.length->(∀σ,den N σ r=f σ)->dc (ord.drop l) f N=(N,r)
 | 0,l,hk,f,r,hd,hr,hf=>by
  have e:ord.drop l=[]:=List.drop_eq_nil_of_le (by rw[hO.len];omega)
  rw[e] at hd ⊢
  have hc:∀σ,den N σ r=f (λ_=>false):=λσ=>(hf σ).trans (hd _ _ (λv hv=>by simp at hv))
  rw[dc]
  cases hb:f (λ_=>false) with
  | true=>
   rw[if_pos rfl,h.canon hO.lv (r:=r) (s:=1) hr om (λσ=>by rw[hc,hb,iI])]
  | false=>
   rw[if_neg zSm,h.canon hO.lv (r:=r) (s:=0) hr om (λσ=>by rw[hc,hb,gu])]
 | k+1,l,hk,f,r,hd,hr,hf=>by
  have hl:l<ord.length:=by rw[hO.len];omega
  have hdr:ord.drop l=ord[l] :: ord.drop (l+1):=List.drop_eq_getElem_cons hl
  generalize hv:ord[l]=v at hdr
  have hat:=hO.at_ l v (by rw[List.getElem?_eq_getElem hl,hv])
  rw[hdr] at hd ⊢
  have hdN:Dep (λσ=>den N σ r) (ord.drop l):=by
   rw[hdr]
   exact λσ σ' hh=>by simp only[hf];exact hd σ σ' hh
  have hge:=h.lvl_ge hO hr om hdN
  rw[dc]
  by_cases hlt:l<lvl n lev N r
  ·have hfs:∀b σ,den N σ r=f (b_ σ v b):=λb σ=>by
    rw[<-hf,h.den_set hr (by rw[hat.2];exact hlt)]
   rw[m_ hO h k (l+1) om (r:=r) hd.set hr (hfs false),m_ hO h k (l+1) om (r:=r) hd.set hr (hfs true)]
   simp[mkD]
  ·have hle:lvl n lev N r=l:=om
   rcases io hr with rfl | rfl | ⟨i,x,rfl,hx⟩
   ·rw[ie om] at hle;omega
   ·rw[ie om] at hle;omega
   ·obtain⟨a,b,c,d,e,f'⟩:=h.nd i x hx
    have hi:=(List.getElem?_eq_some_iff.1 hx).1
    rw[nI hx] at hle
    have hxv:x.Y.toNat=v:=hO.lv.inj _ _ om hat.1 (by rw[hle,hat.2])
    have h1:∀σ,den N σ x.E.toNat=f (b_ σ v false):=λσ=>by rw[<-hf,<-hxv];exact(h.den_cof hx σ false).symm
    have h2:∀σ,den N σ x.I.toNat=f (b_ σ v true):=λσ=>by rw[<-hf,<-hxv];exact(h.den_cof hx σ true).symm
    rw[m_ hO h k (l+1) om (r:=x.E.toNat) hd.set om h1,m_ hO h k (l+1) om (r:=x.I.toNat) hd.set om h2]
    have hxe:(⟨(v:Int),((x.E.toNat:Nat):Int),((x.I.toNat:Nat):Int)⟩:GDNode)=x:=by
     cases x
     simp only[GDNode.mk.injEq]
     simp only at *
     omega
    have hm:x∈N:=List.mem_of_getElem? hx
    have hix:N.idxOf x=i:=by
     have hlt':N.idxOf x<N.length:=List.idxOf_lt_length_of_mem hm
     exact h.dis _ _ x (by rw[List.getElem?_eq_getElem hlt',List.getElem_idxOf]) hx
    simp only[mkD]
    rw[if_neg om,hxe,if_pos hm,hix]
theorem mZ (hO:OrdL n lev ord):∀(k l:Nat),l+k=n->∀ {f:Asg->Bool} {N:List GDNode},WT n lev N->Dep f (ord.drop l)->
  WT n lev (dc (ord.drop l) f N).1/\(∃M,(dc (ord.drop l) f N).1=N++M)/\(dc (ord.drop l) f N).2<2+(dc (ord.drop l) f N).1.length/\∀σ,den (dc (ord.drop l) f N).1 σ (dc (ord.drop l) f N).2=f σ
 | 0,l,hk,f,N,h,hd=>by
  have e:ord.drop l=[]:=List.drop_eq_nil_of_le (by rw[hO.len];omega)
  rw[e] at hd ⊢
  rw[dc]
  refine⟨h,⟨[],by simp⟩,?_,λσ=>?_⟩
  ·simp only;split<;>omega
  ·simp only
   rw[hd σ (λ_=>false) (λv hv=>by simp at hv)]
   split
   ·rename_i hb;rw[iI,hb]
   ·rename_i hb;rw[gu];simpa using hb
 | k+1,l,hk,f,N,h,hd=>by
  have hl:l<ord.length:=by rw[hO.len];omega
  have hdr:ord.drop l=ord[l] :: ord.drop (l+1):=List.drop_eq_getElem_cons hl
  generalize hv:ord[l]=v at hdr
  have hat:=hO.at_ l v (by rw[List.getElem?_eq_getElem hl,hv])
  rw[hdr] at hd ⊢
  obtain⟨a1,⟨M1,a2⟩,a3,a4⟩:=mZ hO k (l+1) om (f:=λσ=>f (b_ σ v false)) h hd.set
  generalize hA:dc (ord.drop (l+1)) (λσ=>f (b_ σ v false)) N=A at a1 a2 a3 a4
  obtain⟨b1,⟨M2,b2⟩,b3,b4⟩:=mZ hO k (l+1) om (f:=λσ=>f (b_ σ v true)) a1 hd.set
  generalize hB:dc (ord.drop (l+1)) (λσ=>f (b_ σ v true)) A.1=B at b1 b2 b3 b4
  rw[dc,hA,hB]
  have a3':A.2<2+B.1.length:=by rw[b2,length_append];omega
  have a4':∀σ,den B.1 σ A.2=f (b_ σ v false):=λσ=>by rw[b2,f_ _ a3,a4]
  have hla:l+1<=lvl n lev B.1 A.2:=b1.lvl_ge hO a3' om (λσ σ' hh=>by simp only[a4'];exact hd.set σ σ' hh)
  have hlb:l+1<=lvl n lev B.1 B.2:=b1.lvl_ge hO b3 om (λσ σ' hh=>by simp only[b4];exact hd.set σ σ' hh)
  have hdec:∀σ,f σ=bif σ v then f (b_ σ v true) else f (b_ σ v false):=λσ=>by
   cases hs:σ v
   ·rw[show b_ σ v false=σ by rw[<-hs];exact tQ];rfl
   ·rw[show b_ σ v true=σ by rw[<-hs];exact tQ];rfl
  unfold mkD
  split
  ·rename_i heq
   refine⟨b1,⟨M1++M2,by rw[b2,a2,append_assoc]⟩,a3',λσ=>?_⟩
   rw[hdec]
   cases hs:σ v
   ·exact a4' σ
   ·have:=b4 σ;rw[<-heq] at this;exact this
  ·rename_i hne
   have hval:∀(N':List GDNode) (i:Nat) σ,N'[i]? = some (⟨(v:Int),(A.2:Int),(B.2:Int)⟩:GDNode)->(∃M,N'=B.1++M)->A.2<2+i->B.2<2+i->den N' σ (2+i)=f σ:=by
    rintro N' i σ hi ⟨M,rfl⟩ ha hb
    rw[vN hi (by simpa using ha) (by simpa using hb)]
    simp only[toNat_natCast]
    rw[f_ _ a3',f_ _ b3,a4',b4]
    exact(hdec σ).symm
   split
   ·rename_i hm
    have hlt:B.1.idxOf (⟨(v:Int),(A.2:Int),(B.2:Int)⟩:GDNode)<B.1.length:=List.idxOf_lt_length_of_mem hm
    have hget:B.1[B.1.idxOf (⟨(v:Int),(A.2:Int),(B.2:Int)⟩:GDNode)]? = some (⟨(v:Int),(A.2:Int),(B.2:Int)⟩:GDNode):=by rw[List.getElem?_eq_getElem hlt,List.getElem_idxOf]
    obtain⟨_,c1,c2,_⟩:=b1.nd _ _ hget
    simp only at c1 c2
    exact⟨b1,⟨M1++M2,by rw[b2,a2,append_assoc]⟩,by simp only;omega,λσ=>hval B.1 _ σ hget ⟨[],by simp⟩ om om⟩
   ·rename_i hm
    refine⟨b1.snoc ⟨by simp,by simp only;omega⟩ ⟨by simp,by simp only;omega⟩ ⟨by simp,by simp only;omega⟩ (by simp only;omega) (by simp only[toNat_natCast];rw[hat.2];omega) (by simp only[toNat_natCast];rw[hat.2];omega) hm,
     ⟨M1++M2++[⟨(v:Int),(A.2:Int),(B.2:Int)⟩],by rw[b2,a2];simp⟩,by simp,λσ=>hval _ _ σ zSm ⟨_,rfl⟩ a3' b3⟩
theorem Dp (hO:OrdL n lev ord) (h:WT n lev N) {f:Asg->Bool} {l:Nat} (hl:l<n) (hd:Dep f (ord.drop (l+1))):dc (ord.drop l) f N=dc (ord.drop (l+1)) f N:=by
 have hl':l<ord.length:=by rw[hO.len];omega
 have hdr:ord.drop l=ord[l] :: ord.drop (l+1):=List.drop_eq_getElem_cons hl'
 generalize hv:ord[l]=v at hdr
 have hat:=hO.at_ l v (by rw[List.getElem?_eq_getElem hl',hv])
 have hf:∀b,(λσ=>f (b_ σ v b))=f:=λb=>by
  funext σ
  exact hd.not (λhm=>by have:=(hO.mem.1 hm).2;omega) σ b
 obtain⟨a1,_,a3,a4⟩:=mZ hO (n-(l+1)) (l+1) om h hd
 rw[hdr,dc,hf,hf,m_ hO a1 (n-(l+1)) (l+1) om hd a3 a4]
 simp[mkD]
theorem qy (hO:OrdL n lev ord) (h:WT n lev N) {f:Asg->Bool}:∀(k l:Nat),l+k<=n->Dep f (ord.drop (l+k))->dc (ord.drop l) f N=dc (ord.drop (l+k)) f N
 | 0,l,_,_=>rfl
 | k+1,l,hk,hd=>by
  rw[Dp hO h om (hd.sub λv hv=>hO.mem.2 ⟨(hO.mem.1 hv).1,by have:=(hO.mem.1 hv).2;omega⟩),qy hO h k (l+1) om (by rw[show l+1+k=l+(k+1) by omega];exact hd),show l+1+k=l+(k+1) by omega]
theorem Dq (hO:OrdL n lev ord) (h:WT n lev N) {f:Asg->Bool} {v:Nat} (hv:v<n) (hd:Dep f (ord.drop (lev v))) :
  dc ord f N=mkD v (dc ord (λσ=>f (b_ σ v false)) N).2 (dc ord (λσ=>f (b_ σ v true)) (dc ord (λσ=>f (b_ σ v false)) N).1).2 (dc ord (λσ=>f (b_ σ v true)) (dc ord (λσ=>f (b_ σ v false)) N).1).1:=by
 have hlt:=hO.lv.lt v hv
 have hd2:∀b,Dep (λσ=>f (b_ σ v b)) (ord.drop (lev v+1)):=λb=>by
  rw[hO.drop hv] at hd
  exact hd.set
 have e:∀(g:Asg->Bool) (N:List GDNode),WT n lev N->Dep g (ord.drop (lev v+1))->dc ord g N=dc (ord.drop (lev v+1)) g N:=λg N hN hg=>by
  have:=qy hO hN (f:=g) (lev v+1) 0 om (by simpa using hg)
  simpa using this
 have h0:dc ord f N=dc (ord.drop (lev v)) f N:=by
  have:=qy hO h (f:=f) (lev v) 0 om (by simpa using hd)
  simpa using this
 obtain⟨a1,_⟩:=mZ hO (n-(lev v+1)) (lev v+1) om h (hd2 false)
 rw[h0,hO.drop hv,dc,e _ N h (hd2 false),e _ _ a1 (hd2 true)]
theorem rD (hO:OrdL n lev ord) (h:WT n lev N) {f:Asg->Bool} (hd:Dep f ord):WT n lev (dc ord f N).1/\(∃M,(dc ord f N).1=N++M)/\(dc ord f N).2<2+(dc ord f N).1.length/\∀σ,den (dc ord f N).1 σ (dc ord f N).2=f σ:=by
 have:=mZ hO n 0 om (f:=f) h (by simpa using hd)
 simpa using this
theorem G9 (hO:OrdL n lev ord) (h:WT n lev N) {f:Asg->Bool} {r:Nat} (hd:Dep f ord) (hr:r<2+N.length) (hf:∀σ,den N σ r=f σ):dc ord f N=(N,r):=by
 have:=m_ hO h n 0 om (f:=f) (r:=r) (by simpa using hd) hr hf
 simpa using this
end
def R6 (N:List GDNode):Nat->Nat->List Int->List Int
 | 0,_,b=>b
 | fu+1,r,b=>if r<2\/(r:Int)∈b then b else match N[r-2]? with
  | none=>b
  | some x=>R6 N fu x.I.toNat (R6 N fu x.E.toNat b)++[(r:Int)]
def abR (N:List GDNode) (r:Nat) (b:List Int):List Int:=R6 N (r+1) r b
section
variable {N:List GDNode}
def upto (k:Nat):List Int:=(range k).map λi=>((2+i:Nat):Int)
variable {n:Nat} {lev:Nat->Nat} {ord:List Nat}
end
theorem vk {V:Type} {m:GMap V} {k q:List Int} {v:V}:eT (mput m k v) q=if q=k then some v else eT m q:=rfl
theorem dI {V:Type} {m:GMap V} {k q:Int} {v:V}:eT (mput m [k] v) [q]=if q=k then some v else eT m [q]:=by
 rw[vk]
 by_cases h:q=k
 ·subst h;rw[if_pos rfl,if_pos rfl]
 ·rw[if_neg h,if_neg (λhc=>h (by simpa using hc))]
theorem rc {V:Type} {q:List Int}:eT (ib:GMap V) q=none:=rfl
section
variable {n:Nat} {lev:Nat->Nat} {ord:List Nat}
structure EX (n:Nat) (lev:Nat->Nat) (T:List GDNode) (refs:GMap Int) (N:List GDNode):Prop where
 wt:WT n lev N
 c0:eT refs [0]=some 0
 c1:eT refs [1]=some 1
 sound:∀r x,eT refs [r]=some x->0<=r/\r.toNat<2+T.length/\0<=x/\x.toNat<2+N.length/\∀σ,den N σ x.toNat=den T σ r.toNat
 onto:∀i,i<N.length->∃r,eT refs [r]=some ((2+i:Nat):Int)
variable {T N:List GDNode} {refs:GMap Int}
theorem WT.dep_all (hO:OrdL n lev ord) (h:WT n lev N) {r:Nat} (hr:r<2+N.length):Dep (λσ=>den N σ r) ord:=(h.dep hO hr).sub λ_ hv=>List.mem_of_mem_drop hv
theorem EX.start:EX n lev T (mput (mput ib [0] 0) [1] 1) []:=by
 refine⟨WT.nil,?_,?_,λr x h=>?_,λi hi=>by simp at hi⟩
 ·rw[dI,if_neg (by decide),dI,if_pos rfl]
 ·rw[dI,if_pos rfl]
 ·rw[dI] at h
  by_cases h1:r=1
  ·subst h1;rw[if_pos rfl] at h;cases h
   exact⟨by decide,by simp;omega,by decide,by simp,λσ=>by rw[show(1:Int).toNat=1 from rfl,iI,iI]⟩
  ·rw[if_neg h1,dI] at h
   by_cases h0:r=0
   ·subst h0;rw[if_pos rfl] at h;cases h
    exact⟨by decide,by simp;omega,by decide,by simp,λσ=>by rw[show(0:Int).toNat=0 from rfl,gu,gu]⟩
   ·rw[if_neg h0,rc] at h;cases h
theorem EX.old (hO:OrdL n lev ord) (hT:WT n lev T) (h:EX n lev T refs N) {r x:Int} (hr:eT refs [r]=some x):dc ord (λσ=>den T σ r.toNat) N=(N,x.toNat):=by
 obtain⟨_,h2,_,h4,h5⟩:=h.sound r x hr
 exact G9 hO h.wt (hT.dep_all hO h2) h4 h5
theorem EX.node (hO:OrdL n lev ord) (hT:WT n lev T) {N1 N2:List GDNode} {refs2:GMap Int} {i:Nat} {x:GDNode} {y1 y2:Int} (hN:WT n lev N) (h:EX n lev T refs2 N2) (hx:T[i]? = some x) (hy1:0<=y1) (hy2:0<=y2)
  (e1:dc ord (λσ=>den T σ x.E.toNat) N=(N1,y1.toNat)) (e2:dc ord (λσ=>den T σ x.I.toNat) N1=(N2,y2.toNat)) (hno:eT refs2 [((2+i:Nat):Int)]=none) :
  dc ord (λσ=>den T σ (2+i)) N=(N2++[⟨x.Y,y1,y2⟩],2+N2.length)/\EX n lev T (mput refs2 [((2+i:Nat):Int)] ((2+N2.length:Nat):Int)) (N2++[⟨x.Y,y1,y2⟩]):=by
 obtain⟨a,b,c,d,e,f⟩:=hT.nd i x hx
 have hi:=(List.getElem?_eq_some_iff.1 hx).1
 have hv:x.Y.toNat<n:=om
 have hd:=hT.dep hO (r:=2+i) om
 rw[nI hx] at hd
 have f1:(λσ=>den T (b_ σ x.Y.toNat false) (2+i))=λσ=>den T σ x.E.toNat:=by funext σ;exact hT.den_cof hx σ false
 have f2:(λσ=>den T (b_ σ x.Y.toNat true) (2+i))=λσ=>den T σ x.I.toNat:=by funext σ;exact hT.den_cof hx σ true
 have s1:=rD hO hN (hT.dep_all hO (r:=x.E.toNat) om)
 rw[e1] at s1
 have s2:=rD hO s1.1 (hT.dep_all hO (r:=x.I.toNat) om)
 rw[e2] at s2
 obtain⟨w1,_,l1,d1⟩:=s1
 obtain⟨w2,⟨M,rfl⟩,l2,d2⟩:=s2
 simp only at w1 l1 d1 w2 l2 d2
 have l1':y1.toNat<2+(N1++M).length:=by simp;omega
 have d1':∀σ,den (N1++M) σ y1.toNat=den T σ x.E.toNat:=λσ=>by rw[f_ _ l1,d1]
 have hne:y1.toNat≠y2.toNat:=λhc=>by
  have:=hT.canon hO.lv (r:=x.E.toNat) (s:=x.I.toNat) om om λσ=>by rw[<-d1',<-d2,hc]
  omega
 have hxe:(⟨((x.Y.toNat:Nat):Int),((y1.toNat:Nat):Int),((y2.toNat:Nat):Int)⟩:GDNode)=⟨x.Y,y1,y2⟩:=by
  simp only[GDNode.mk.injEq]
  omega
 have hval:∀(N':List GDNode) j σ,N'[j]? = some (⟨x.Y,y1,y2⟩:GDNode)->(∃M',N'=(N1++M)++M')->y1.toNat<2+j->y2.toNat<2+j->den N' σ (2+j)=den T σ (2+i):=by
  rintro N' j σ hj ⟨M',rfl⟩ h1 h2
  rw[vN hj h1 h2,hT.den_at hx,f_ _ l1',f_ _ l2,d1',d2]
 have hnm:(⟨x.Y,y1,y2⟩:GDNode)∉N1++M:=λhm=>by
  obtain⟨j,hj⟩:=List.mem_iff_getElem?.1 hm
  have hjl:=(List.getElem?_eq_some_iff.1 hj).1
  obtain⟨_,p1,p2,_⟩:=w2.nd j _ hj
  simp only at p1 p2
  obtain⟨r0,hr0⟩:=h.onto j hjl
  obtain⟨q1,q2,_,_,q5⟩:=h.sound r0 _ hr0
  have:=hT.canon hO.lv (r:=r0.toNat) (s:=2+i) q2 om λσ=>by
   rw[<-q5,toNat_natCast]
   exact hval _ j σ hj ⟨[],by simp⟩ om om
  rw[show r0=((2+i:Nat):Int) by omega,hno] at hr0
  cases hr0
 have hadd:dc ord (λσ=>den T σ (2+i)) N=((N1++M)++[⟨x.Y,y1,y2⟩],2+(N1++M).length):=by
  rw[Dq hO hN hv hd,f1,f2,e1,e2]
  simp only[mkD]
  rw[if_neg hne,hxe,if_neg hnm]
 refine⟨hadd,?_⟩
 have s3:=rD hO hN (hT.dep_all hO (r:=2+i) om)
 rw[hadd] at s3
 refine⟨s3.1,?_,?_,λr y hr=>?_,λj hj=>?_⟩
 ·rw[dI,if_neg om];exact h.c0
 ·rw[dI,if_neg om];exact h.c1
 ·rw[dI] at hr
  by_cases hri:r=((2+i:Nat):Int)
  ·rw[if_pos hri] at hr
   cases hr
   subst hri
   refine⟨om,by rw[toNat_natCast];omega,om,by rw[toNat_natCast];simp,λσ=>?_⟩
   rw[toNat_natCast,toNat_natCast]
   exact s3.2.2.2 σ
  ·rw[if_neg hri] at hr
   obtain⟨q1,q2,q3,q4,q5⟩:=h.sound r y hr
   exact⟨q1,q2,q3,by rw[length_append];omega,λσ=>by rw[f_ _ q4,q5]⟩
 ·have hlen:((N1++M)++[(⟨x.Y,y1,y2⟩:GDNode)]).length=(N1++M).length+1:=by rw[length_append];rfl
  rw[hlen] at hj
  by_cases hj':j<(N1++M).length
  ·obtain⟨r,hr⟩:=h.onto j hj'
   refine⟨r,?_⟩
   rw[dI,if_neg,hr]
   rintro rfl
   rw[hno] at hr;cases hr
  ·obtain rfl:j=(N1++M).length:=om
   exact⟨((2+i:Nat):Int),by rw[dI,if_pos rfl]⟩
end
def Vd (N:List GDNode) (r:Int):Prop:=0<=r/\r.toNat<2+N.length
def dn (N:List GDNode) (r:Int) (σ:Asg):Bool:=den N σ r.toNat
def Pre (N N':List GDNode):Prop:=∃M,N'=N++M
theorem Pre.refl (N:List GDNode):Pre N N:=⟨[],by simp⟩
theorem Pre.trans {A B C:List GDNode} (h:Pre A B) (h':Pre B C):Pre A C:=let ⟨M,a⟩:=h;let ⟨M',b⟩:=h';⟨M++M',by rw[b,a,append_assoc]⟩
theorem Pre.len {A B:List GDNode} (h:Pre A B):A.length<=B.length:=by obtain⟨M,rfl⟩:=h;simp
theorem Vd.pre {N N':List GDNode} {r:Int} (h:Vd N r) (hp:Pre N N'):Vd N' r:=⟨h.1,by have:=h.2;have:=hp.len;omega⟩
theorem fM {N N':List GDNode} {r:Int} (h:Vd N r) (hp:Pre N N'):dn N' r=dn N r:=by
 obtain⟨M,rfl⟩:=hp
 funext σ
 exact f_ M h.2
theorem Pre.lvl {n:Nat} {lev:Nat->Nat} {N N':List GDNode} {r:Int} (h:Vd N r) (hp:Pre N N'):lvl n lev N' r.toNat=lvl n lev N r.toNat:=by
 obtain⟨M,rfl⟩:=hp
 exact rh M h.2
theorem vd0 {N:List GDNode}:Vd N 0:=⟨by decide,by show 0<_;omega⟩
theorem vd1 {N:List GDNode}:Vd N 1:=⟨by decide,by show 1<_;omega⟩
theorem dn0 {N:List GDNode}:dn N 0=λ_=>false:=by funext σ;exact gu
theorem dn1 {N:List GDNode}:dn N 1=λ_=>true:=by funext σ;exact iI
structure TB (n:Nat) (lev:Nat->Nat) (nodes:List GDNode) (unique memo:GMap Int):Prop where
 wt:WT n lev nodes
 uq:∀v lo hi r,eT unique [v,lo,hi]=some r↔∃i,r=((2+i:Nat):Int)/\nodes[i]? = some ⟨v,lo,hi⟩
 me:∀c a b r,eT memo [c,a,b]=some r->(Vd nodes c/\Vd nodes a/\Vd nodes b)/\Vd nodes r/\∀σ,dn nodes r σ=bif dn nodes c σ then dn nodes a σ else dn nodes b σ
section
variable {n:Nat} {lev:Nat->Nat} {ord:List Nat} {nodes:List GDNode} {unique memo:GMap Int}
theorem TB.nil:TB n lev [] ib ib:=⟨WT.nil,λv lo hi r=>⟨λh=>by simp[rc] at h,λ⟨i,_,h⟩=>by simp at h⟩,λc a b r h=>by simp[rc] at h⟩
theorem TB.make_old (h:TB n lev nodes unique memo) {v lo hi r:Int} (hr:eT unique [v,lo,hi]=some r):Vd nodes r/\∀σ,dn nodes r σ=bif σ v.toNat then dn nodes hi σ else dn nodes lo σ:=by
 obtain⟨i,rfl,hi'⟩:=(h.uq v lo hi r).1 hr
 have hl:=(List.getElem?_eq_some_iff.1 hi').1
 refine⟨⟨om,by rw[toNat_natCast];omega⟩,λσ=>?_⟩
 unfold dn
 rw[toNat_natCast]
 exact h.wt.den_at hi' σ
theorem TB.make_new (h:TB n lev nodes unique memo) {v lo hi:Int} (hv:0<=v/\v<n) (hlo:Vd nodes lo) (hhi:Vd nodes hi) (hne:lo≠hi) (h1:lev v.toNat<lvl n lev nodes lo.toNat) (h2:lev v.toNat<lvl n lev nodes hi.toNat) (hno:eT unique [v,lo,hi]=none) :
  TB n lev (nodes++[⟨v,lo,hi⟩]) (mput unique [v,lo,hi] (2+nodes.length)) memo/\Vd (nodes++[⟨v,lo,hi⟩]) (2+nodes.length)/\
   ∀σ,dn (nodes++[⟨v,lo,hi⟩]) (2+nodes.length) σ=bif σ v.toNat then dn nodes hi σ else dn nodes lo σ:=by
 have hnm:(⟨v,lo,hi⟩:GDNode)∉nodes:=λhm=>by
  obtain⟨i,hi'⟩:=List.mem_iff_getElem?.1 hm
  have:=(h.uq v lo hi _).2 ⟨i,rfl,hi'⟩
  rw[hno] at this;cases this
 have hp:Pre nodes (nodes++[⟨v,lo,hi⟩]):=⟨_,rfl⟩
 have w:=h.wt.snoc (x:=⟨v,lo,hi⟩) hv ⟨hlo.1,by have:=hlo.2;have:=hlo.1;simp only;omega⟩ ⟨hhi.1,by have:=hhi.2;have:=hhi.1;simp only;omega⟩ hne h1 h2 hnm
 have hlast:(nodes++[⟨v,lo,hi⟩])[nodes.length]? = some (⟨v,lo,hi⟩:GDNode):=by simp
 refine⟨⟨w,λv' lo' hi' r=>?_,λc a b r hr=>?_⟩,⟨om,by rw[length_append,length_singleton];omega⟩,λσ=>?_⟩
 ·rw[vk]
  constructor
  ·intro hh
   by_cases he : [v',lo',hi']=[v,lo,hi]
   ·rw[if_pos he] at hh
    simp only[List.cons.injEq,and_true] at he
    obtain⟨rfl,rfl,rfl⟩:=he
    cases hh
    exact⟨nodes.length,om,hlast⟩
   ·rw[if_neg he] at hh
    obtain⟨i,a,b⟩:=(h.uq _ _ _ _).1 hh
    exact⟨i,a,by rw[List.getElem?_append_left (List.getElem?_eq_some_iff.1 b).1];exact b⟩
  ·rintro⟨i,rfl,hi2⟩
   have hil:=(List.getElem?_eq_some_iff.1 hi2).1
   rw[length_append,length_singleton] at hil
   by_cases hi3:i<nodes.length
   ·rw[List.getElem?_append_left hi3] at hi2
    have:=(h.uq v' lo' hi' _).2 ⟨i,rfl,hi2⟩
    rw[if_neg,this]
    intro he
    simp only[List.cons.injEq,and_true] at he
    obtain⟨rfl,rfl,rfl⟩:=he
    rw[hno] at this;cases this
   ·obtain rfl:i=nodes.length:=om
    rw[hlast] at hi2
    cases hi2
    rw[if_pos rfl]
    congr 1
 ·obtain⟨⟨p1,p2,p3⟩,p4,p5⟩:=h.me c a b r hr
  exact⟨⟨p1.pre hp,p2.pre hp,p3.pre hp⟩,p4.pre hp,λσ=>by rw[fM p4 hp,fM p1 hp,fM p2 hp,fM p3 hp];exact p5 σ⟩
 ·have:=w.den_at hlast σ
  unfold dn
  rw[show(2+(nodes.length:Int)).toNat=2+nodes.length by omega,this]
  simp only
  rw[f_ _ hlo.2,f_ _ hhi.2]
theorem TB.memo_put (h:TB n lev nodes unique memo) {c a b r:Int} (hc:Vd nodes c) (ha:Vd nodes a) (hb:Vd nodes b) (hr:Vd nodes r) (hd:∀σ,dn nodes r σ=bif dn nodes c σ then dn nodes a σ else dn nodes b σ):TB n lev nodes unique (mput memo [c,a,b] r):=by
 refine⟨h.wt,h.uq,λc' a' b' r' hh=>?_⟩
 rw[vk] at hh
 by_cases he : [c',a',b']=[c,a,b]
 ·rw[if_pos he] at hh
  simp only[List.cons.injEq,and_true] at he
  obtain⟨rfl,rfl,rfl⟩:=he
  cases hh
  exact⟨⟨hc,ha,hb⟩,hr,hd⟩
 ·rw[if_neg he] at hh
  exact h.me c' a' b' r' hh
end
def plE (o:List Int) (n:Int) (i:Nat):Int:=
 if at' o (i:Int)<0\/n<=at' o (i:Int) then 3 else if ∃k<i,at' o (k:Int)=at' o (i:Int) then 6 else 0
def tC (o:List Int) (n:Int):Int:=if n<0\/24<n then 3 else if (o.length:Int)≠n then 11 else nL (plE o n) o.length
theorem wv {o:List Int} {n:Int} {Q:Option Int->Prop} (h:Q (mF (tC o n))):mA o n Q:=by
 unfold tC at h
 refine⟨λb=>b=decide (n<0\/24<n),condT (λh0=>?_) (λh0=>?_),λb hb=>?_⟩
 ·rw[decide_eq_true (.inl h0)]
 ·exact decide_eq_decide.2 om
 subst hb
 refine condT (λh0=>?_) (λh0=>ga (λh2=>?_) (λh2=>?_))
 ·rw[if_pos h0] at h;exact h
 ·rw[if_neg h0,if_pos h2] at h;exact h
 ·rw[if_neg h0,if_neg om] at h
  subst h2
  refine⟨⟨om,om,om⟩,?_⟩
  refine bQ (n:=o.length) (λi y=>(y.1=(i:Int)/\∀j,j<i->plE o o.length j=0)/\y.2.length=o.length/\∀v:Nat,v<o.length->(at' y.2 (v:Int)=true↔∃k<i,at' o (k:Int)=(v:Int))) (λy=>y.1) 0
   (λi y hy=>by rw[hy.1.1];omega) ⟨⟨rfl,λj hj=>absurd hj om⟩,by simp[aQ],λv hv=>?_⟩ ?_ ?_
  ·constructor
   ·intro hb
    simp[at',aQ,List.getD_eq_getElem?_getD,hv] at hb
   ·rintro⟨k,hk,_⟩;omega
  ·rintro i ⟨x,seen⟩ next hi ⟨⟨hx,hz⟩,hl,hs⟩ hn
   dsimp only at hx hl hs
   subst hx
   have hit:∀e,plE o o.length i=e->e≠0->Q (mF e):=λe he hne=>by
    have:=nK hz (by rw[he];exact hne) o.length hi
    rw[this,he] at h
    exact h
   refine condT (λ_=>⟨⟨om,om⟩,λb=>b=decide (at' o (i:Int)<0\/(o.length:Int)<=at' o (i:Int)),condT (λh3=>?_) (λh3=>?_),λb hb=>?_⟩) (λhc=>absurd (show(i:Int)<o.length by omega) hc)
   ·rw[decide_eq_true (.inl h3)]
   ·exact decide_eq_decide.2 om
   subst hb
   refine condT (λh3=>hit 3 (by rw[plE,if_pos h3]) (by decide)) (λh3=>⟨om,?_⟩)
   obtain⟨v,hv⟩:∃v:Nat,at' o (i:Int)=v:=⟨(at' o (i:Int)).toNat,om⟩
   have hvl:v<o.length:=om
   rw[hv]
   have hsv:=hs v hvl
   refine aJ (λh4=>hit 6 (by rw[plE,if_neg h3,hv,if_pos (hsv.1 h4)]) (by decide)) (λh4=>⟨om,zRg,hn _ ⟨⟨by dsimp only;omega,λj hj=>?_⟩,by dsimp only;rw[bJ];exact hl,λu hu=>?_⟩⟩)
   ·rcases lt_or_ge j i with h5 | h5
    ·exact hz j h5
    ·obtain rfl:j=i:=om
     rw[plE,if_neg h3,hv,if_neg (λhc=>by rw[hsv.2 hc] at h4;cases h4)]
   ·dsimp only
    rw[cm om]
    split
    ·rename_i he
     subst he
     exact⟨λ_=>⟨i,om,hv⟩,λ_=>rfl⟩
    ·rename_i he
     rw[hs u hu]
     constructor
     ·rintro⟨k,hk,hk'⟩;exact⟨k,om,hk'⟩
     ·rintro⟨k,hk,hk'⟩
      rcases lt_or_ge k i with h5 | h5
      ·exact⟨k,h5,hk'⟩
      ·obtain rfl:k=i:=om
       omega
  ·rintro⟨x,seen⟩ next ⟨⟨hx,hz⟩,_⟩
   dsimp only at hx
   subst hx
   refine condT (λhc=>absurd hc om) (λ_=>?_)
   rw[ea.2 hz] at h
   exact h
structure Or14 (o:List Int):Prop where
 le:o.length<=24
 rg:∀i:Nat,i<o.length->0<=at' o (i:Int)/\at' o (i:Int)<o.length
 inj:∀i j:Nat,i<o.length->j<o.length->at' o (i:Int)=at' o (j:Int)->i=j
theorem CT {o:List Int} (h:tC o o.length=0):Or14 o:=by
 unfold tC at h
 split at h
 ·cases h
 ·rw[if_neg zSm] at h
  have hz:=ea.1 h
  have hp:∀i,i<o.length->(0<=at' o (i:Int)/\at' o (i:Int)<o.length)/\∀k,k<i->at' o (k:Int)≠at' o (i:Int):=λi hi=>by
   have:=hz i hi
   unfold plE at this
   split at this
   ·cases this
   ·split at this
    ·cases this
    ·rename_i h1 h2;exact⟨om,λk hk he=>h2 ⟨k,hk,he⟩⟩
  refine⟨om,λi hi=>(hp i hi).1,λi j hi hj he=>?_⟩
  rcases Nat.lt_trichotomy i j with h1 | h1 | h1
  ·exact absurd he ((hp j hj).2 i h1)
  ·exact h1
  ·exact absurd he.symm ((hp i hi).2 j h1)
theorem HK {o:List Int} (h:Or14 o):tC o o.length=0:=by
 have:=h.le
 unfold tC
 rw[if_neg om,if_neg zSm]
 refine ea.2 λi hi=>?_
 have:=h.rg i hi
 rw[plE,if_neg om,if_neg (λ⟨k,hk,he⟩=>by have:=h.inj k i om hi he;omega)]
theorem qW:∀(m:Nat) (l:List Nat),l.Nodup->(∀x∈l,x<m)->l.length<=m
 | 0,l,_,h=>by
  cases l with
  | nil=>simp
  | cons x l=>have:=h x zSm;omega
 | m+1,l,hd,h=>by
  by_cases hm:m∈l
  ·have h1:=qW m (l.erase m) (hd.erase m) (λx hx=>by
    have h2:=h x (List.mem_of_mem_erase hx)
    have h3:x≠m:=λhe=>by subst he;exact(hd.not_mem_erase) hx
    omega)
   have:=List.length_erase_of_mem hm
   omega
  ·have:=qW m l hd (λx hx=>by
    have h2:=h x hx
    have h3:x≠m:=λhe=>hm (he▸hx)
    omega)
   omega
theorem CY {l:List Nat} (hd:l.Nodup) (h:∀x∈l,x<l.length) {v:Nat} (hv:v<l.length):v∈l:=by
 by_cases hm:v∈l
 ·exact hm
 ·exfalso
  have h1:=qW l.length (v :: l) (List.nodup_cons.2 ⟨hm,hd⟩) (λx hx=>by
   rcases List.mem_cons.1 hx with rfl | hx
   ·exact hv
   ·exact h x hx)
  simp at h1
  omega
def iU (o:List Int):List Nat:=o.map toNat
def iv (o:List Int):Nat->Nat:=λv=>(iU o).idxOf v
section
variable {o:List Int}
theorem gp:(iU o).length=o.length:=by simp[iU]
theorem nG {i:Nat} (h:i<o.length):(iU o)[i]? = some (at' o (i:Int)).toNat:=by
 simp[iU,at',List.getD_eq_getElem?_getD,List.getElem?_eq_getElem h]
theorem Or14.nodup (h:Or14 o):(iU o).Nodup:=by
 rw[List.Nodup,List.pairwise_iff_getElem]
 intro i j hi hj hij he
 rw[gp] at hi hj
 have h1:=nG hi
 have h2:=nG hj
 rw[List.getElem?_eq_getElem (by rw[gp];exact hi)] at h1
 rw[List.getElem?_eq_getElem (by rw[gp];exact hj)] at h2
 have h3:=Option.some.inj h1
 have h4:=Option.some.inj h2
 have h5:=h.rg i hi
 have h6:=h.rg j hj
 have:=h.inj i j hi hj om
 omega
theorem Or14.all (h:Or14 o) {v:Nat} (hv:v<o.length):v∈iU o:=by
 refine CY h.nodup (λx hx=>?_) (by rw[gp];exact hv)
 obtain⟨i,hi⟩:=List.mem_iff_getElem?.1 hx
 have hil:i<o.length:=by have:=(List.getElem?_eq_some_iff.1 hi).1;rwa[gp] at this
 rw[nG hil] at hi
 have:=h.rg i hil
 rw[gp]
 have:=Option.some.inj hi
 omega
theorem Or14.lev_at (h:Or14 o) {i:Nat} (hi:i<o.length):iv o (at' o (i:Int)).toNat=i:=by
 have h1:=nG hi
 have hil:i<(iU o).length:=by rw[gp];exact hi
 rw[List.getElem?_eq_getElem hil] at h1
 unfold iv
 rw[<-Option.some.inj h1]
 exact h.nodup.idxOf_getElem i hil
theorem Or14.at_lev (h:Or14 o) {v:Nat} (hv:v<o.length):iv o v<o.length/\at' o (iv o v:Int)=v:=by
 have hm:=h.all hv
 have hl:iv o v<(iU o).length:=List.idxOf_lt_length_of_mem hm
 have hl':iv o v<o.length:=by rwa[gp] at hl
 refine⟨hl',?_⟩
 have h1:=nG hl'
 rw[List.getElem?_eq_getElem hl] at h1
 have h2:(iU o)[iv o v]=v:=List.getElem_idxOf hl
 rw[h2] at h1
 have:=h.rg _ hl'
 have:=Option.some.inj h1
 omega
theorem Or14.ord (h:Or14 o):OrdL o.length (iv o) (iU o):=by
 refine⟨⟨λi j hi hj he=>?_,λi hi=>(h.at_lev hi).1⟩,gp,λi v hi=>?_,λv hv=>?_⟩
 ·have h1:=(h.at_lev hi).2
  have h2:=(h.at_lev hj).2
  rw[he] at h1
  omega
 ·have hil:i<o.length:=by have:=(List.getElem?_eq_some_iff.1 hi).1;rwa[gp] at this
  rw[nG hil] at hi
  have h1:=Option.some.inj hi
  have h2:=h.rg i hil
  exact⟨om,by rw[<-h1];exact h.lev_at hil⟩
 ·have h1:=h.at_lev hv
  rw[nG h1.1,h1.2]
  rfl
end
section
variable {o:List Int} {N:List GDNode}
end
section
variable {N:List GDNode}
theorem GX {i:Nat} (hi:i<N.length):N[i]? = some (at' N (i:Int)):=by
 simp[at',List.getD_eq_getElem?_getD,List.getElem?_eq_getElem hi]
structure NB (N:List GDNode) (b:List Int) (ok:Bool) (next:Int) (seen:List Bool):Prop where
 nx:next=b.length
 ok:ok=true↔b=upto b.length
 len:seen.length=N.length
end
theorem Dk {e:Int} (h:e≠0):Option.isSome (mF e)=true:=by simp[mF,h]
theorem vM {e:Int} (h:e≠0):mF e=some e:=by simp[mF,h]
structure VD (d:GDiagram):Prop where
 ord:Or14 d.T
 wt:WT d.T.length (iv d.T) d.N
 root:Vd d.N d.G
 le:d.N.length<=4096
 num:abR d.N d.G.toNat []=upto d.N.length
def tL (o:List Int) (f:Asg->Bool):GDiagram:=⟨o,(dc (iU o) f []).1,(dc (iU o) f []).2⟩
theorem H9 {s i:Nat}:inS s i=s.testBit i:=by rw[inS,Nat.testBit_eq_decide_div_mod_eq]
def iN (p:Nat->Bool):Nat->Nat
 | 0=>0
 | n+1=>if p n=true then iN p n+2^n else iN p n
theorem tV {p:Nat->Bool}:∀n,iN p n<2^n
 | 0=>by simp[iN]
 | n+1=>by
  have:=tV (p:=p) n
  rw[iN,Nat.pow_succ]
  split<;>omega
theorem Cp {p:Nat->Bool} (n:Nat):iN p n ||| 2^n=iN p n+2^n:=by
 have:=Nat.two_pow_add_eq_or_of_lt (tV (p:=p) n) 1
 rw[mul_one] at this
 rw[Nat.or_comm,<-this,Nat.add_comm]
theorem Ac {p:Nat->Bool}:∀n i,(iN p n).testBit i=(decide (i<n) && p i)
 | 0,i=>by simp[iN]
 | n+1,i=>by
  rw[iN]
  rcases Nat.lt_trichotomy i n with h | h | h
  ·have h1:(decide (i<n+1) && p i)=(decide (i<n) && p i):=by rw[decide_eq_true h,decide_eq_true om]
   rw[h1,<-Ac n i]
   split
   ·rw[<-Cp,Nat.testBit_or,Nat.testBit_two_pow_of_ne om,Bool.or_false]
   ·rfl
  ·subst h
   rw[decide_eq_true (Nat.lt_succ_self i),Bool.true_and]
   have h0:(iN p i).testBit i=false:=Nat.testBit_lt_two_pow (tV i)
   cases hp:p i with
   | true=>rw[if_pos rfl,<-Cp,Nat.testBit_or,h0,Nat.testBit_two_pow_self,Bool.false_or]
   | false=>rw[if_neg zSm];exact h0
  ·rw[decide_eq_false om,Bool.false_and]
   refine Nat.testBit_lt_two_pow (Nat.lt_of_lt_of_le (m:=2^(n+1)) ?_ (pow_le_pow_right om om))
   have:=tV (p:=p) n
   rw[Nat.pow_succ]
   split<;>omega
theorem Ji {p:Nat->Bool} {n i:Nat} (h:i<n):inS (iN p n) i=p i:=by rw[H9,Ac,decide_eq_true h,Bool.true_and]
def stA (s:Nat):Asg:=λv=>inS s v
theorem qw {p q:Nat->Bool}:∀ {n:Nat},(∀v,v<n->p v=q v)->iN p n=iN q n
 | 0,_=>rfl
 | n+1,h=>by rw[iN,iN,qw (n:=n) (λv hv=>h v om),h n om]
theorem qs {n:Nat} (h:n<=24):2^n<=16777216:=by
 have:=pow_le_pow_right (n:=2) om h
 exact this
section
variable {o:List Int} {N:List GDNode}
theorem vW:∀(vs:List Nat) (f:Asg->Bool) (N:List GDNode),(dc vs f N).1.length+1<=N.length+2^vs.length
 | [],f,N=>by simp[dc]
 | v :: vs,f,N=>by
  have h1:=vW vs (λσ=>f (b_ σ v false)) N
  have h2:=vW vs (λσ=>f (b_ σ v true)) (dc vs (λσ=>f (b_ σ v false)) N).1
  rw[dc,List.length_cons,Nat.pow_succ]
  unfold mkD
  split
  ·simp only;omega
  ·split
   ·simp only;omega
   ·simp only[length_append,length_singleton];omega
end
end Go.Gg
