/- What the functions on natural numbers compute, told of their formulas: part A. Conditions: none. -/
import Derived.Test.YtnjgdkfhgmebjaaGreatGc
import Derived.KernelRfl
import Derived.Test.YtnjgdkfhgmebjaaGreatWa
import Derived.Test.YtnjgdkfhgmebjaaGreatGd
namespace Go.Gg
theorem rQ (l:List Int) (i:Int):at' l i=l.getD i.toNat 0:=rfl
theorem fR (l:List Int) (i:Nat):at' l (i:Int)=l.getD i 0:=rfl
theorem ft {α:Type} (l:List α) (i:Nat) (x:α):bq l (i:Int) x=l.set i x:=rfl
theorem s7 {α:Type} (n:Nat) (x:α):bu (n:Int) x=List.replicate n x:=rfl
theorem CL {α:Type} {f:(α->Prop)->Prop} {k:α->Prop} (h:f k):dk f k:=⟨k,h,λ_ h=>h⟩
theorem hY {α:Type} {e:α} {k:α->Prop} (h:k e):ko e k:=λ_ hv=>hv▸h
theorem condT {c:Prop} [Decidable c] {a b:Prop} (h1:c->a) (h2:¬c->b):ah (decide c) a b:=⟨λh=>h1 (of_decide_eq_true h),λh=>h2 (of_decide_eq_false h)⟩
theorem bO {α:Type} [DecidableEq α] {x y:α} {a b:Prop} (h1:x=y->a) (h2:x≠y->b):ah (x == y) a b:=⟨λh=>h1 (by simpa using h),λh=>h2 (by simpa using h)⟩
theorem fl {α:Type} [DecidableEq α] {x y:α} {a b:Prop} (h1:x≠y->a) (h2:x=y->b):ah (x != y) a b:=⟨λh=>h1 (by simpa using h),λh=>h2 (by simpa using h)⟩
theorem qy {b:Nat} {n:Nat} (hb:b<=200) (h:n<=1099511627776):jn b (n:Int) (n:Int):=⟨by omega,Int.le_refl _,by
 have:(b:Int)*(n:Int)<=200*1099511627776:=Int.mul_le_mul om om om om
 omega,by omega⟩
abbrev SM (l:List Int):Prop:=l.length<=1099511627776
theorem dA {a:List Int} {i:Nat} {Q:Int->Prop} (hw:Words a) (h:Q (a.getD i 0)):cP a (i:Int) Q:=by
 refine condT (λhc=>⟨⟨by omega,hc⟩,?_⟩) (λhc=>?_)
 ·rw [fR]
  have:=hw i
  rw [wrap_u64_id om om]
  exact h
 ·rw [oN om] at h
  exact h
theorem cb {a:List Int} {Q:List Int->Prop} (hw:Words a) (hl:SM a) (h:Q (lim (val a))):bT a Q:=by
 refine ⟨λn=>∃j:Nat,n=j/\j<=a.length/\(∀i,j<=i->i<a.length->a.getD i 0=0)/\(0<j->a.getD (j-1) 0≠0),?_,?_⟩
 ·refine ⟨λn=>∃j:Nat,n=j/\j<=a.length/\(∀i,j<=i->i<a.length->a.getD i 0=0),λn=>n.toNat,⟨a.length,rfl,Nat.le_refl _,λi h1 h2=>om⟩,?_⟩
  rintro n ⟨j,rfl,hj,hz⟩
  refine condT (λhc=>⟨by unfold rng;omega,⟨by omega,by omega⟩,bO (λhe=>⟨by unfold rng;omega,⟨j-1,by omega,by omega,λi h1 h2=>?_⟩,by dsimp only;omega⟩) (λhe=>⟨j,rfl,hj,hz,λ_=>?_⟩)⟩) (λhc=>⟨j,rfl,hj,hz,λh0=>om⟩)
  ·by_cases hi:i=j-1
   ·subst hi
    rw [rQ] at he
    have:((j:Int)-1).toNat=j-1:=om
    rwa [this] at he
   ·exact hz i om h2
  ·rw [rQ] at he
   have:((j:Int)-1).toNat=j-1:=om
   rwa [this] at he
 ·rintro n ⟨j,rfl,hj,hz,hlast⟩
  have e:=qC hw hj hz hlast
  refine bO (λhc=>?_) (λhc=>⟨⟨by omega,by omega,by omega⟩,?_,?_⟩)
  ·obtain rfl:j=0:=om
   rw [<-e] at h
   exact h
  ·simp [cB]
   have:min j a.length<=a.length:=om
   omega
  ·rw [<-e] at h
   simpa [cB] using h
theorem fN {a b:List Int} {Q:Int->Prop} (ha:Words a) (hb:Words b) (la:SM a) (lb:SM b) (h:Q (np (val a) (val b))):dq a b Q:=by
 refine cb ha la (cb hb lb ?_)
 have b1:=dj ha
 have b2:=dj hb
 have w1:=aI (val a)
 have w2:=aI (val b)
 have v1:=cm w1
 have v2:=cm w2
 rw [aW] at v1 v2
 generalize hA:lim (val a)=A at *
 generalize hB:lim (val b)=B at *
 have hlt:A.length<B.length->val a<val b:=λh=>by
  rw [<-hA,<-hB] at h
  rcases Nat.lt_or_ge (val a) (val b) with h' | h'
  ·exact h'
  ·have:=cF h'
   omega
 have hgt:B.length<A.length->val b<val a:=λh=>by
  rw [<-hA,<-hB] at h
  rcases Nat.lt_or_ge (val b) (val a) with h' | h'
  ·exact h'
  ·have:=cF h'
   omega
 unfold SM at la lb
 refine fl (λhc=>condT (λh1=>?_) (λh1=>?_)) (λhc=>⟨by unfold rng;omega,?_⟩)
 ·rw [np,if_pos (hlt om)] at h;exact h
 ·have:=hgt om
  rw [np,if_neg om,if_neg om] at h;exact h
 ·have hlen:A.length=B.length:=om
  refine ⟨λi=>∃j:Nat,i=(j:Int)-1/\j<=A.length/\(∀k,j<=k->k<A.length->A.getD k 0=B.getD k 0),λi=>(i+1).toNat,⟨A.length,rfl,Nat.le_refl _,λk h1 h2=>om⟩,?_⟩
  rintro i ⟨j,rfl,hj,he⟩
  have hj1:((j:Int)-1).toNat=j-1:=om
  refine condT (λhc=>⟨⟨by omega,by omega⟩,⟨by omega,by omega⟩,?_⟩) (λhc=>?_)
  ·rw [rQ,rQ,hj1]
   refine condT (λh1=>?_) (λh1=>⟨⟨by omega,by omega⟩,⟨by omega,by omega⟩,condT (λh2=>?_) (λh2=>⟨by unfold rng;omega,⟨j-1,by omega,by omega,λk h3 h4=>?_⟩,by dsimp only;omega⟩)⟩)
   ·have:=zX w1 w2 (i:=j-1) (n:=A.length) om h1 (λk h1 h2=>he k om h2)
    rw [<-hlen] at v2
    rw [np,if_pos om] at h;exact h
   ·have:=zX w2 w1 (i:=j-1) (n:=A.length) om h2 (λk h1 h2=>(he k om h2).symm)
    rw [<-hlen] at v2
    rw [np,if_neg om,if_neg om] at h;exact h
   ·by_cases hk:k=j-1
    ·subst hk;omega
    ·exact he k om h4
  ·have:=jL (l:=A) (m:=B) A.length (λk hk=>he k om hk)
   rw [<-hlen] at v2
   rw [np,if_neg om,if_pos om] at h;exact h
theorem vk {a b:List Int} {Q:List Int->Prop} (ha:Words a) (hb:Words b) (la:SM a) (lb:a.length<=1099511627775/\b.length<=1099511627775) (h:Q (lim (val a+val b))):jC a b Q:=by
 unfold SM at la
 obtain ⟨n,hn0⟩:∃n,n=max a.length b.length+1:=⟨_,rfl⟩
 have hn:max (a.length:Int) (b.length:Int)+1=(n:Int):=om
 unfold jC
 rw [hn]
 refine ⟨by unfold rng;omega,qy om om,?_⟩
 rw [Int.toNat_natCast]
 refine ⟨λy=>∃i:Nat,y.2.1=i/\i<=n/\y.2.2.length=n/\Words y.2.2/\0<=y.1/\y.1<=1/\pv y.2.2 i+y.1*4294967296^i=pv a i+pv b i,λy=>n-y.2.1.toNat,⟨0,rfl,by omega,by simp [bu],Words.rep n,by omega,by omega,by simp [pv]⟩,?_⟩
 rintro ⟨c,x,out⟩ ⟨i,hx,hi,hlen,hw,hc0,hc1,hpv⟩
 simp only at hx hi hlen hw hc0 hc1 hpv
 subst hx
 have hxl:=ha i
 have hxm:=hb i
 refine condT (λhlt=>?_) (λhge=>?_)
 ·refine dA ha (dA hb (hY ⟨⟨by omega,by omega⟩,by unfold rng;omega,?_,?_⟩))
  ·simp (disch:=omega) only [ft,wrap_u64_id,wrap_u32]
   refine ⟨i+1,by omega,by omega,by simp [hlen],hw.set _ om om,by show 0<=_ / 4294967296;omega,by show _ / 4294967296<=1;omega,?_⟩
   show pv (out.set i _) (i+1)+_ / 4294967296*_=_
   rw [tV om,Int.pow_succ,pv,pv,Int.add_assoc,lF]
   have:=Int.add_mul c (a.getD i 0+b.getD i 0) (4294967296^i)
   have:=Int.add_mul (a.getD i 0) (b.getD i 0) (4294967296^i)
   omega
  ·show n-((i:Int)+1).toNat<n-(i:Int).toNat
   omega
 ·obtain rfl:i=n:=om
  refine cb hw (by unfold SM;omega) ?_
  have e:val out=val a+val b:=by
   have a1:=dW hw (i:=i) om
   have a2:=dW ha (i:=i) om
   have a3:=dW hb (i:=i) om
   have b2:=nB (l:=a) (i-1) om
   have b3:=nB (l:=b) (i-1) om
   have b4:=nB (l:=a) i om
   have b5:=nB (l:=b) i om
   have c2:=(bp ha (i-1)).2
   have c3:=(bp hb (i-1)).2
   have hi1:i=i-1+1:=om
   have hc:=hpv
   rw [hi1,Int.pow_succ,<-hi1] at hc
   have:=uw hc om om om hc0 hc1 (eM _)
   subst this
   omega
  rw [e]
  exact h
theorem pf {a b:List Int} {Q:List Int->Option Int->Prop} (ha:Words a) (hb:Words b) (la:SM a) (lb:SM b) (h1:val a<val b->Q [] (some 3)) (h2:val b<=val a->Q (lim (val a-val b)) none):jA a b Q:=by
 refine fN ha hb la lb (condT (λhc=>h1 (kA.1 hc)) (λhc=>⟨qy om la,?_⟩))
 have hge:val b<=val a:=by have:=mt kA.2 hc;omega
 have h:=h2 hge
 clear h1 h2
 unfold SM at la lb
 rw [Int.toNat_natCast]
 refine ⟨λy=>∃i:Nat,y.2.1=i/\i<=a.length/\y.2.2.length=a.length/\Words y.2.2/\0<=y.1/\y.1<=1/\pv y.2.2 i=pv a i-pv b i+y.1*4294967296^i,λy=>a.length-y.2.1.toNat,⟨0,rfl,by omega,by simp [bu],Words.rep _,by omega,by omega,by simp [pv]⟩,?_⟩
 rintro ⟨c,x,out⟩ ⟨i,hx,hi,hlen,hw,hb0,hb1,hpv⟩
 simp only at hx hi hlen hw hb0 hb1 hpv
 subst hx
 have hxl:=ha i
 have hxm:=hb i
 obtain ⟨q1,q2,q3⟩:=tA (a.getD i 0) (b.getD i 0) c hxl hxm ⟨hb0,hb1⟩
 refine condT (λhlt=>dA ha (dA hb (hY ⟨⟨by omega,by omega⟩,by unfold rng;omega,?_,by dsimp only;omega⟩))) (λhge=>?_)
 ·simp only [ft,wrap_u32]
  generalize IntKind.u64.wrap (IntKind.u64.wrap (a.getD i 0-b.getD i 0)-c)=d at *
  have e63:d / 2^Int.toNat 63=d / 9223372036854775808:=rfl
  refine ⟨i+1,by omega,by omega,by simp [hlen],hw.set _ om om,by simpa only [e63] using q2,by simpa only [e63] using q3,?_⟩
  simp only [e63]
  rw [tV om,Int.pow_succ,pv,pv,hpv]
  have e:d % 4294967296=a.getD i 0-b.getD i 0-c+4294967296*(d / 9223372036854775808):=om
  rw [e]
  generalize d / 9223372036854775808=d'
  have a1:=Int.add_mul (a.getD i 0-b.getD i 0-c) (4294967296*d') (4294967296^i)
  have a2:=Int.sub_mul (a.getD i 0-b.getD i 0) c (4294967296^i)
  have a3:=Int.sub_mul (a.getD i 0) (b.getD i 0) (4294967296^i)
  have a4:4294967296*d'*4294967296^i=d'*(4294967296^i*4294967296):=by rw [Int.mul_comm 4294967296 d',Int.mul_assoc,Int.mul_comm 4294967296]
  omega
 ·obtain rfl:i=a.length:=om
  refine cb hw (by unfold SM;omega) ?_
  have e:val out=val a-val b:=by
   have a1:=dW hw (i:=a.length) om
   have a2:=cm ha
   have a3:=bp ha a.length
   have a4:=bp hw a.length
   have a5:=bp hb a.length
   have a6:=cm hb
   rcases Nat.lt_or_ge a.length b.length with h | h
   ·have hm1:=oI hb (Nat.le_of_lt h)
    rcases (by omega:c=0\/c=1) with rfl | rfl
    ·
     have hz:pv b b.length=pv b a.length:=by
      refine qi hb (Nat.le_of_lt h) ?_
      omega
     omega
    ·omega
   ·have hm1:=dW hb h
    rcases (by omega:c=0\/c=1) with rfl | rfl<;>omega
  rw [e]
  exact h
theorem g_ {a b:List Int} {Q:List Int->Prop} (ha:Words a) (hb:Words b) (la:a.length+b.length<=1099511627776) (h:Q (lim (val a*val b))):d9 a b Q:=by
 obtain ⟨N,hN⟩:∃N,N=a.length+b.length:=⟨_,rfl⟩
 have hNi:(a.length:Int)+(b.length:Int)=(N:Int):=om
 unfold d9
 rw [hNi]
 refine ⟨by unfold rng;omega,qy om om,?_⟩
 refine ⟨λy=>∃i:Nat,y.1=i/\i<=a.length/\y.2.length=N/\Words y.2/\(∀p,i+b.length<=p->y.2.getD p 0=0)/\pv y.2 N=pv a i*pv b b.length,λy=>a.length-y.1.toNat,
  ⟨0,rfl,by omega,by simp [bu],Words.rep _,λp hp=>by rw [s7,List.getD_eq_getElem?_getD,List.getElem?_replicate];split<;>rfl,by rw [s7,pD];simp [pv]⟩,?_⟩
 rintro ⟨x,out⟩ ⟨i,hx,hi,hlen,hw,hz,hpv⟩
 simp only at hx hi hlen hw hz hpv
 subst hx
 have hxi:=ha i
 refine condT (λhlt=>⟨⟨by omega,hlt⟩,?_⟩) (λhge=>?_)
 ·refine ⟨λy=>∃k:Nat,y.2.1=k/\k<=b.length/\y.2.2.length=N/\Words y.2.2/\(∀p,i+b.length<=p->y.2.2.getD p 0=0)/\0<=y.1/\y.1<4294967296/\
    pv y.2.2 N+y.1*4294967296^(i+k)=pv a i*pv b b.length+a.getD i 0*4294967296^i*pv b k,λy=>b.length-y.2.1.toNat,
   ⟨0,rfl,by omega,hlen,hw,hz,by omega,by omega,by simp [pv,hpv]⟩,?_⟩
  clear hpv hz hw hlen h
  rintro ⟨c,x1,out2⟩ ⟨k,hx,hk,hlen,hw,hz,hc0,hc1,hpv⟩
  simp only at hx hk hlen hw hz hc0 hc1 hpv
  subst hx
  have hy:=hb k
  have ho:=hw (i+k)
  obtain ⟨q1,q2⟩:=yg hxi hy
  have eik:(i:Int)+(k:Int)=((i+k:Nat):Int):=om
  have eib:(i:Int)+(b.length:Int)=((i+b.length:Nat):Int):=om
  refine condT (λhlt2=>⟨⟨by omega,hlt2⟩,by unfold rng;omega,⟨by omega,by omega⟩,hY ⟨by unfold rng;omega,⟨by omega,by omega⟩,by unfold rng;omega,?_,by dsimp only;omega⟩⟩) (λhge2=>⟨by unfold rng;omega,⟨by omega,by omega⟩,by unfold rng;omega,?_,by dsimp only;omega⟩)
  ·simp only [eik,fR,ft]
   simp (disch:=omega) only [wrap_u64_id,wrap_u32]
   have e32:∀z:Int,z / 2^Int.toNat 32=z / 4294967296:=λ_=>rfl
   simp only [e32]
   generalize hv:c+(a.getD i 0*b.getD k 0+out2.getD (i+k) 0)=v
   refine ⟨k+1,by omega,by omega,by simp [hlen],hw.set _ om om,λp hp=>?_,by show 0<=v / 4294967296;omega,by show v / 4294967296<4294967296;omega,?_⟩
   ·show (out2.set (i+k) _).getD p 0=0
    rw [ct om];exact hz p hp
   ·show pv (out2.set (i+k) (v % 4294967296)) N+v / 4294967296*4294967296^(i+(k+1))=_
    rw [gk om N om,pv,<-Nat.add_assoc,Int.pow_succ,Int.mul_add,<-Int.add_assoc,<-hpv]
    have s1:=lF v (4294967296^(i+k))
    have s2:=Int.sub_mul (v % 4294967296) (out2.getD (i+k) 0) (4294967296^(i+k))
    have s3:v*4294967296^(i+k)=c*4294967296^(i+k)+(a.getD i 0*4294967296^i*(b.getD k 0*4294967296^k)+out2.getD (i+k) 0*4294967296^(i+k)):=by
     rw [<-hv,Int.add_mul,Int.add_mul,Int.pow_add]
     congr 2
     rw [Int.mul_assoc,Int.mul_assoc,Int.mul_left_comm (b.getD k 0)]
    omega
  ·obtain rfl:k=b.length:=om
   simp only [eib,ft,wrap_u32]
   have hcm:c % 4294967296=c:=om
   rw [hcm]
   refine ⟨i+1,by omega,by omega,by simp [hlen],hw.set _ om om,λp hp=>?_,?_⟩
   ·show (out2.set (i+b.length) c).getD p 0=0
    rw [ct om];exact hz p om
   ·show pv (out2.set (i+b.length) c) N=pv a (i+1)*_
    rw [gk om N om,hz (i+b.length) om,pv,Int.add_mul,Int.sub_zero]
    exact hpv
 ·obtain rfl:i=a.length:=om
  refine cb hw (by unfold SM;omega) ?_
  have e:val out=val a*val b:=by
   have a1:=dW hw (i:=N) om
   have a2:=cm ha
   have a3:=cm hb
   have:((val a*val b:Nat):Int)=(val a:Int)*(val b:Int):=by simp
   have:(val out:Int)=((val a*val b:Nat):Int):=by rw [this,a1,hpv,a2,a3]
   omega
  rw [e]
  exact h
end Go.Gg
namespace Go.Gg
theorem Cl {x y i:Nat} (hx:x<2^i) (hy:2^i ∣ y):y ||| x=y+x:=by
 obtain ⟨z,rfl⟩:=hy
 rw [Nat.mul_comm,<-Nat.shiftLeft_eq,Nat.shiftLeft_add_eq_or_of_lt hx]
theorem t5 {x y:Int} (i:Nat) (hx:0<=x) (hxi:x<2^i) (hy:0<=y) (hyi:y % 2^i=0) (hs:y+x<18446744073709551616):bits .or .u64 y x=y+x:=by
 obtain ⟨m,rfl⟩:=Int.eq_ofNat_of_zero_le hx
 obtain ⟨n,rfl⟩:=Int.eq_ofNat_of_zero_le hy
 have h1:m<2^i:=by exact_mod_cast hxi
 have h2:2^i ∣ n:=by
  have:(n:Int) % ((2^i:Nat):Int)=0:=by simpa using hyi
  exact Nat.dvd_of_mod_eq_zero om
 have h3:=Cl h1 h2
 show IntKind.u64.wrap (((BitVec.ofInt 64 (n:Int)) ||| (BitVec.ofInt 64 (m:Int))).toNat:Int)=_
 rw [nN,BitVec.toNat_or,BitVec.toNat_ofInt,BitVec.toNat_ofInt]
 have e1:((n:Int) % ((2^64:Nat):Int)).toNat=n:=om
 have e2:((m:Int) % ((2^64:Nat):Int)).toNat=m:=om
 rw [e1,e2,h3]
 omega
theorem wx {x y:Int} (i:Nat) (hx:0<=x) (hxi:x<2^i) (hy:0<=y) (hyi:y % 2^i=0) (hs:y+x<18446744073709551616):bits .or .u64 x y=y+x:=by
 rw [<-t5 i hx hxi hy hyi hs]
 show IntKind.u64.wrap (((BitVec.ofInt 64 x) ||| (BitVec.ofInt 64 y)).toNat:Int)=IntKind.u64.wrap (((BitVec.ofInt 64 y) ||| (BitVec.ofInt 64 x)).toNat:Int)
 rw [BitVec.or_comm]
theorem DQ {x y:Int} (i:Nat) (hx:0<=x) (hxi:x<2^i) (hy:0<=y) (hyi:y % 2^i=0) (hs:y+x<4294967296):bits .or .u32 x y=y+x:=by
 obtain ⟨m,rfl⟩:=Int.eq_ofNat_of_zero_le hx
 obtain ⟨n,rfl⟩:=Int.eq_ofNat_of_zero_le hy
 have h1:m<2^i:=by exact_mod_cast hxi
 have h2:2^i ∣ n:=by
  have:(n:Int) % ((2^i:Nat):Int)=0:=by simpa using hyi
  exact Nat.dvd_of_mod_eq_zero om
 have h3:=Cl h1 h2
 show IntKind.u32.wrap (((BitVec.ofInt 32 (m:Int)) ||| (BitVec.ofInt 32 (n:Int))).toNat:Int)=_
 rw [wrap_u32,BitVec.toNat_or,BitVec.toNat_ofInt,BitVec.toNat_ofInt]
 have e1:((n:Int) % ((2^32:Nat):Int)).toNat=n:=om
 have e2:((m:Int) % ((2^32:Nat):Int)).toNat=m:=om
 rw [e1,e2,Nat.or_comm,h3]
 omega
def bX (n:Nat):Nat:=if n=0 then 0 else n.log2+1
theorem v5:bX 0=0:=rfl
theorem oR {n:Nat}:n<2^bX n:=by
 unfold bX
 split
 ·omega
 ·exact Nat.lt_log2_self
theorem nt {n:Nat} (h:n≠0):2^(bX n-1)<=n:=by
 unfold bX
 rw [if_neg h]
 exact Nat.log2_self_le h
theorem rP {n k:Nat} (h:n<2^k) (h':k≠0->2^(k-1)<=n):bX n=k:=by
 by_cases h0:n=0
 ·subst h0
  cases k with
  | zero=>rfl
  | succ k=>have:=h' om;have:0<2^k:=Nat.pow_pos om;simp at *
 ·have a:=oR (n:=n)
  have b:=nt h0
  have hk:k≠0:=by rintro rfl;simp at h;omega
  have c:=h' hk
  have hb:bX n≠0:=by unfold bX;rw [if_neg h0];omega
  rcases Nat.lt_trichotomy (bX n) k with hlt | he | hgt
  ·have:2^bX n<=2^(k-1):=Nat.pow_le_pow_right om om
   omega
  ·exact he
  ·have:2^k<=2^(bX n-1):=Nat.pow_le_pow_right om om
   omega
theorem uB {n k:Nat} (h:2^k<=n):bX n=bX (n / 2^k)+k:=by
 have hp:0<2^k:=Nat.pow_pos om
 have hq:n / 2^k≠0:=by have:=Nat.div_pos h hp;omega
 have a:=oR (n:=n / 2^k)
 have b:=nt hq
 have hb:bX (n / 2^k)≠0:=by unfold bX;rw [if_neg hq];omega
 refine rP ?_ (λ_=>?_)
 ·rw [Nat.pow_add]
  rw [Nat.div_lt_iff_lt_mul hp] at a
  exact a
 ·have e:bX (n / 2^k)+k-1=(bX (n / 2^k)-1)+k:=om
  rw [e,Nat.pow_add]
  rw [Nat.le_div_iff_mul_le hp] at b
  exact b
theorem Dw:(List.range 256).all (λk=>pQ gC k == (bX k:Int))=true:=by kernel_rfl
theorem Fo {k:Nat} (h:k<256):pQ gC k=(bX k:Int):=by
 have:=List.all_eq_true.1 Dw k (by simpa using h)
 simpa using this
theorem BT:gC.size=256:=by kernel_rfl
theorem Ag {x:Nat} {Q:Int->Prop} (hx:x<4294967296) (h:Q (bX x)):fX (x:Int) Q:=by
 refine ⟨λy=>∃z k:Nat,y=((z:Int),(k:Int))/\z<65536/\k<=16/\bX x=bX z+k,?_,?_⟩
 ·refine condT (λhc=>⟨x / 65536,16,?_,by omega,by omega,?_⟩) (λhc=>⟨x,0,rfl,by omega,by omega,rfl⟩)
  ·show ((x:Int) / 65536,(16:Int))=_
   rw [Prod.mk.injEq];exact ⟨by omega,rfl⟩
  ·exact uB (k:=16) om
 ·rintro _ ⟨z,k,rfl,hz,hk,hb⟩
  refine ⟨λy=>∃z k:Nat,y=((z:Int),(k:Int))/\z<256/\k<=24/\bX x=bX z+k,?_,?_⟩
  ·refine condT (λhc=>⟨by unfold rng;omega,z / 256,k+8,?_,by omega,by omega,?_⟩) (λhc=>⟨z,k,rfl,by omega,by omega,hb⟩)
   ·show ((z:Int) / 256,(k:Int)+8)=_
    rw [Prod.mk.injEq];exact ⟨by omega,by omega⟩
   ·have h8:=uB (n:=z) (k:=8) om
    have e:z / 2^8=z / 256:=rfl
    rw [e] at h8
    omega
  ·rintro _ ⟨z,k,rfl,hz,hk,hb⟩
   show (_/\_)
   have hw:IntKind.u8.wrap (z:Int)=z:=by rw [wrap_u8];omega
   have hz':(bX z:Int)<=8:=by
    have:bX z<=8:=by
     by_cases h0:z=0
     ·subst h0;simp [bX]
     ·have:=nt h0
      rcases Nat.lt_or_ge 8 (bX z) with h8 | h8
      ·have:2^8<=2^(bX z-1):=Nat.pow_le_pow_right om om
       omega
      ·exact h8
    omega
   rw [hw,BT]
   have e:(Int.toNat (z:Int))=z:=om
   rw [e,Fo hz,iM (by unfold rng;omega)]
   refine ⟨⟨by omega,by omega⟩,by unfold rng;omega,hY ?_⟩
   have:(k:Int)+(bX z:Int)=((bX x:Nat):Int):=om
   rw [this]
   exact h
theorem oS {x:Nat} (hx:x<4294967296):bX x<=32:=by
 by_cases h0:x=0
 ·subst h0;simp [bX]
 ·have:=nt h0
  rcases Nat.lt_or_ge 32 (bX x) with h8 | h8
  ·have:2^32<=2^(bX x-1):=Nat.pow_le_pow_right om om
   omega
  ·exact h8
theorem FQ {x:Nat} {Q:Int->Prop} (hx:x<4294967296) (h:Q ((32-bX x:Nat):Int)):eB (x:Int) Q:=by
 refine Ag hx ?_
 have h1:=oS hx
 refine ⟨by unfold rng;omega,?_⟩
 have:(32:Int)-(bX x:Int)=((32-bX x:Nat):Int):=om
 rw [this]
 exact h
end Go.Gg
namespace Go.Gg
theorem oC {n:Nat} (h:n<=32):(2:Int)^n*2^(32-n)=4294967296:=by
 rw [<-Int.pow_add]
 have:n+(32-n)=32:=om
 rw [this];rfl
theorem e8 (n:Nat):(0:Int)<2^n:=Int.pow_pos om
theorem n_ {a:List Int} {n:Nat} {Q:List Int->Prop} (ha:Words a) (la:a.length<=1099511627775) (hn:n<=32) (h:∀out,Words out->out.length=a.length+1->val out=val a*2^n->Q out):eA a (n:Int) Q:=by
 have hL:(a.length:Int)+1=((a.length+1:Nat):Int):=om
 unfold eA
 rw [hL]
 have hs:=oC hn
 have hpp:=e8 n
 have hqp:=e8 (32-n)
 generalize hp:(2:Int)^n=p at *
 generalize (2:Int)^(32-n)=q at *
 have hple:p<=4294967296:=by
  have:p*1<=p*q:=Int.mul_le_mul_of_nonneg_left om om
  omega
 have hdvd:p ∣ 4294967296:=⟨q,hs.symm⟩
 refine ⟨by unfold rng;omega,qy om om,λy=>∃i:Nat,y.1=i/\i<=a.length/\y.2.length=a.length+1/\Words y.2/\(∀k,i<k->y.2.getD k 0=0)/\y.2.getD i 0<p/\pv y.2 (i+1)=pv a i*p,λy=>a.length-y.1.toNat,
  ⟨0,rfl,by omega,by simp [bu],Words.rep _,λk hk=>?_,?_,?_⟩,?_⟩
 ·show (List.replicate (a.length+1) (0:Int)).getD k 0=0
  rw [List.getD_eq_getElem?_getD,List.getElem?_replicate];split<;>rfl
 ·show (List.replicate (a.length+1) (0:Int)).getD 0 0<p
  simp;omega
 ·show pv (List.replicate (a.length+1) (0:Int)) 1=_
  rw [pD];simp [pv]
 rintro ⟨x,out⟩ ⟨i,hx,hi,hlen,hw,hz,hlow,hpv⟩
 simp only at hx hi hlen hw hz hlow hpv
 subst hx
 have hxi:=ha i
 have hoi:=hw i
 refine condT (λhlt=>⟨⟨by omega,hlt⟩,⟨by omega,by omega⟩,?_⟩) (λhge=>?_)
 ·rw [fR,Int.toNat_natCast,hp]
  have hy0:0<=a.getD i 0*p:=Int.mul_nonneg hxi.1 om
  have hy1:a.getD i 0*p<4294967296*p:=Int.mul_lt_mul_of_pos_right hxi.2 hpp
  have hy2:4294967296*p<=4294967296*4294967296:=Int.mul_le_mul_of_nonneg_left hple om
  rw [wrap_u64_id hxi.1 om,wrap_u64_id hy0 om]
  refine hY ?_
  have hdy:p ∣ a.getD i 0*p:=⟨_,Int.mul_comm _ _⟩
  have hhi:a.getD i 0*p / 4294967296<p:=by
   rw [Int.ediv_lt_iff_lt_mul om]
   rw [Int.mul_comm p];exact hy1
  generalize hv:a.getD i 0*p=y at *
  refine ⟨⟨by omega,by omega⟩,⟨by omega,by omega⟩,by unfold rng;omega,⟨by omega,by omega⟩,by unfold rng;omega,?_,by dsimp only;omega⟩
  have e1:(i:Int)+1=((i+1:Nat):Int):=om
  have e32:y / 2^Int.toNat 32=y / 4294967296:=rfl
  have hm:(y % 4294967296) % p=0:=by rw [Int.emod_emod_of_dvd _ hdvd];exact Int.emod_eq_zero_of_dvd hdy
  have hh0:0<=y / 4294967296:=om
  have hor:bits .or .u32 (out.getD i 0) (y % 4294967296)=y % 4294967296+out.getD i 0:=by
   refine DQ n hoi.1 (by rw [hp];exact hlow) om (by rw [hp];exact hm) ?_
   obtain ⟨z,hz'⟩:=Int.dvd_of_emod_eq_zero hm
   have:z<q:=by
    rcases Int.lt_or_le z q with h1 | h1
    ·exact h1
    ·have:p*q<=p*z:=Int.mul_le_mul_of_nonneg_left h1 om
     omega
   have:p*z<=p*(q-1):=Int.mul_le_mul_of_nonneg_left om om
   rw [Int.mul_sub,hs] at this
   omega
  rw [e1,fR,ft,ft,e32,wrap_u32,wrap_u32,hor]
  have hlo:y % 4294967296+out.getD i 0<4294967296:=by
   obtain ⟨z,hz'⟩:=Int.dvd_of_emod_eq_zero hm
   have:z<q:=by
    rcases Int.lt_or_le z q with h1 | h1
    ·exact h1
    ·have:p*q<=p*z:=Int.mul_le_mul_of_nonneg_left h1 om
     omega
   have:p*z<=p*(q-1):=Int.mul_le_mul_of_nonneg_left om om
   rw [Int.mul_sub,hs] at this
   omega
  have hmod:y / 4294967296 % 4294967296=y / 4294967296:=om
  rw [hmod]
  refine ⟨i+1,rfl,by omega,by simp [hlen],(hw.set _ om om).set _ hh0 om,λk hk=>?_,?_,?_⟩
  ·show ((out.set i _).set (i+1) _).getD k 0=0
   rw [ct om,ct om]
   exact hz k om
  ·show ((out.set i _).set (i+1) _).getD (i+1) 0<p
   rw [jF (by simp;omega)]
   exact hhi
  ·show pv ((out.set i _).set (i+1) _) (i+1+1)=_
   rw [tV (by simp;omega),tV om,pv,Int.pow_succ]
   rw [pv] at hpv
   have s4:=Int.add_mul (pv a i) (a.getD i 0*4294967296^i) p
   have s1:=lF y (4294967296^i)
   have s2:=Int.add_mul (y % 4294967296) (out.getD i 0) (4294967296^i)
   have s3:a.getD i 0*4294967296^i*p=y*4294967296^i:=by rw [<-hv,Int.mul_assoc,Int.mul_comm _ p,<-Int.mul_assoc]
   omega
 ·obtain rfl:i=a.length:=om
  refine h out hw hlen ?_
  have a1:=cm hw
  have a2:=cm ha
  rw [hlen,hpv,<-a2] at a1
  have:((val a*2^n:Nat):Int)=(val a:Int)*p:=by rw [<-hp];simp
  have:(val out:Int)=((val a*2^n:Nat):Int):=by rw [this];exact a1
  omega
theorem sP {a:List Int} {n:Nat} {Q:List Int->Prop} (ha:Words a) (la:SM a) (hn:n<=32) (h:∀out,Words out->out.length=a.length->val out=val a / 2^n->Q out):ig a (n:Int) Q:=by
 unfold SM at la
 unfold ig
 have hs:=oC hn
 have hpp:=e8 n
 have hqp:=e8 (32-n)
 generalize hp:(2:Int)^n=p at *
 generalize (2:Int)^(32-n)=q at *
 have hdvd:p ∣ 4294967296:=⟨q,hs.symm⟩
 refine ⟨qy om la,λy=>∃i:Nat,y.1=i/\i<=a.length/\y.2.length=a.length/\Words y.2/\pv y.2 i*p=pv a i-a.getD 0 0 % p+(a.getD i 0 % p)*4294967296^i,λy=>a.length-y.1.toNat,
  ⟨0,rfl,by omega,by simp [bu],Words.rep _,by simp [pv];omega⟩,?_⟩
 rintro ⟨x,out⟩ ⟨i,hx,hi,hlen,hw,hpv⟩
 simp only at hx hi hlen hw hpv
 subst hx
 have h0:=ha i
 have h1:=ha (i+1)
 have e1:(i:Int)+1=((i+1:Nat):Int):=om
 refine condT (λhlt=>dA ha ⟨by unfold rng;omega,?_⟩) (λhge=>?_)
 ·rw [e1]
  refine dA ha ⟨⟨by omega,by omega⟩,⟨by omega,by omega⟩,by unfold rng;omega,?_,by dsimp only;omega⟩
  have e32:(2:Int)^Int.toNat 32=4294967296:=rfl
  rw [e32,Int.toNat_natCast,hp,wrap_u64_id om om,wx 32 h0.1 h0.2 om (by show _ % 4294967296=0;omega) om,ft,wrap_u32]
  generalize ha0:a.getD i 0=x0 at *
  generalize ha1:a.getD (i+1) 0=x1 at *
  have hx0:0<=x0 / p:=Int.ediv_nonneg h0.1 om
  have hx0':x0 / p<q:=by rw [Int.ediv_lt_iff_lt_mul hpp,Int.mul_comm,hs];exact h0.2
  have hm0:0<=x1 % p:=Int.emod_nonneg _ om
  have hm1:x1 % p<p:=Int.emod_lt_of_pos _ hpp
  have hdv:(x1*4294967296+x0) / p=x1*q+x0 / p:=by
   rw [<-hs,Int.mul_left_comm,Int.add_comm,Int.add_mul_ediv_left _ _ om,Int.add_comm]
  have hk:(x1*4294967296+x0) / p % 4294967296=(x1 % p)*q+x0 / p:=by
   have d1:x1=p*(x1 / p)+x1 % p:=(Int.mul_ediv_add_emod x1 p).symm
   have d2:x1*q+x0 / p=(x1 % p)*q+x0 / p+4294967296*(x1 / p):=by
    have:x1*q=(p*(x1 / p)+x1 % p)*q:=by rw [<-d1]
    rw [this,Int.add_mul,Int.mul_right_comm,hs];omega
   rw [hdv,d2,Int.add_mul_emod_self_left]
   refine Int.emod_eq_of_lt ?_ ?_
   ·have:=Int.mul_nonneg hm0 (Int.le_of_lt hqp);omega
   ·have:(x1 % p)*q<=(p-1)*q:=Int.mul_le_mul_of_nonneg_right om om
    rw [Int.sub_mul,hs] at this;omega
  rw [hk]
  have hq0:=Int.mul_nonneg hm0 (Int.le_of_lt hqp)
  have hq1:(x1 % p)*q<=(p-1)*q:=Int.mul_le_mul_of_nonneg_right om om
  rw [Int.sub_mul,hs] at hq1
  refine ⟨i+1,rfl,by omega,by simp [hlen],hw.set _ om om,?_⟩
  show pv (out.set i (x1 % p*q+x0 / p)) (i+1)*p=pv a (i+1)-_+_
  rw [tV om,pv,Int.add_mul,hpv,ha0,ha1,Int.pow_succ]
  have d0:x0=p*(x0 / p)+x0 % p:=(Int.mul_ediv_add_emod x0 p).symm
  have s1:(x1 % p*q+x0 / p)*4294967296^i*p=x1 % p*(4294967296^i*4294967296)+(p*(x0 / p))*4294967296^i:=by
   rw [Int.add_mul,Int.add_mul]
   congr 1
   ·rw [<-hs,Int.mul_assoc,Int.mul_assoc,Int.mul_left_comm q,Int.mul_comm q p]
   ·rw [Int.mul_right_comm,Int.mul_comm (x0 / p)]
  have s2:x0*4294967296^i=(p*(x0 / p))*4294967296^i+x0 % p*4294967296^i:=by
   rw [<-Int.add_mul,<-d0]
  omega
 ·obtain rfl:i=a.length:=om
  refine h out hw hlen ?_
  have a1:=cm hw
  have a2:=cm ha
  rw [hlen] at a1
  rw [oN (Nat.le_refl a.length),Int.zero_emod,Int.zero_mul,<-a2,<-a1] at hpv
  have hr0:0<=a.getD 0 0 % p:=Int.emod_nonneg _ om
  have hr1:a.getD 0 0 % p<p:=Int.emod_lt_of_pos _ hpp
  have e:(val a:Int) / p=val out:=by
   have:(val a:Int)=p*val out+a.getD 0 0 % p:=by rw [Int.mul_comm];omega
   rw [this,Int.add_comm,Int.add_mul_ediv_left _ _ om,Int.ediv_eq_zero_of_lt hr0 hr1];omega
  have e2:((val a / 2^n:Nat):Int)=(val a:Int) / p:=by rw [<-hp];simp
  omega
theorem sO {a:List Int} {b:Int} {Q:List Int->Int->Prop} (ha:Words a) (la:SM a) (hb0:0<b) (hb1:b<4294967296) (h:Q (lim (val a / b.toNat)) ((val a % b.toNat:Nat):Int)):ie a b Q:=by
 unfold SM at la
 unfold ie
 rw [wrap_u64_id om om]
 refine ⟨qy om la,by unfold rng;omega,λy=>∃j:Nat,y.2.1=(j:Int)-1/\j<=a.length/\y.2.2.length=a.length/\Words y.2.2/\(∀k,k<j->y.2.2.getD k 0=0)/\0<=y.1/\y.1<b/\pv y.2.2 a.length*b+y.1*4294967296^j=pv a a.length-pv a j,
  λy=>(y.2.1+1).toNat,⟨a.length,rfl,by omega,by simp [bu],Words.rep _,λk hk=>?_,by omega,hb0,?_⟩,?_⟩
 ·show (List.replicate a.length (0:Int)).getD k 0=0
  rw [List.getD_eq_getElem?_getD,List.getElem?_replicate];split<;>rfl
 ·show pv (List.replicate a.length (0:Int)) a.length*b+0*_=_
  rw [pD];simp
 rintro ⟨r,x,out⟩ ⟨j,hx,hj,hlen,hw,hz,hr0,hr1,hpv⟩
 simp only at hx hj hlen hw hz hr0 hr1 hpv
 subst hx
 have hj1:((j:Int)-1).toNat=j-1:=om
 refine condT (λhc=>⟨⟨by omega,by omega⟩,?_⟩) (λhc=>?_)
 ·obtain ⟨i,rfl⟩:∃i,j=i+1:=⟨j-1,by omega⟩
  have ei:((i+1:Nat):Int)-1=(i:Int):=om
  have h0:=ha i
  have e32:(2:Int)^Int.toNat 32=4294967296:=rfl
  rw [ei,fR,e32,wrap_u64_id om om,wrap_u64_id om om,t5 32 h0.1 h0.2 om (by show _ % 4294967296=0;omega) om]
  refine hY ⟨by omega,⟨by omega,by omega⟩,by omega,by unfold rng;omega,?_,by dsimp only;omega⟩
  generalize hv:r*4294967296+a.getD i 0=v
  have hv0:0<=v:=om
  rw [Int.tdiv_eq_ediv_of_nonneg hv0,Int.tmod_eq_emod_of_nonneg hv0,ft]
  have hq0:0<=v / b:=Int.ediv_nonneg hv0 om
  have hq1:v / b<4294967296:=by
   rw [Int.ediv_lt_iff_lt_mul hb0,<-hv]
   have:r*4294967296<=(b-1)*4294967296:=Int.mul_le_mul_of_nonneg_right om om
   omega
  rw [wrap_u64_id hq0 om,wrap_u32]
  have hqm:v / b % 4294967296=v / b:=om
  rw [hqm]
  refine ⟨i,rfl,by omega,by simp [hlen],hw.set _ hq0 hq1,λk hk=>?_,Int.emod_nonneg _ om,Int.emod_lt_of_pos _ hb0,?_⟩
  ·show (out.set i _).getD k 0=0
   rw [ct om];exact hz k om
  ·show pv (out.set i (v / b)) a.length*b+v % b*_=_
   rw [gk om a.length om,hz i om,Int.sub_zero,Int.add_mul]
   rw [pv,Int.pow_succ] at hpv
   have d0:v=b*(v / b)+v % b:=(Int.mul_ediv_add_emod v b).symm
   have s1:v / b*4294967296^i*b+v % b*4294967296^i=v*4294967296^i:=by
    rw [Int.mul_right_comm,<-Int.add_mul,Int.mul_comm (v / b),<-d0]
   have s2:v*4294967296^i=r*(4294967296^i*4294967296)+a.getD i 0*4294967296^i:=by
    rw [<-hv,Int.add_mul,Int.mul_assoc,Int.mul_comm 4294967296]
   omega
 ·obtain rfl:j=0:=om
  refine cb hw (by unfold SM;omega) ?_
  have a1:=cm hw
  have a2:=cm ha
  rw [hlen] at a1
  simp only [pv,Int.pow_zero,Int.mul_one,Int.sub_zero] at hpv
  rw [<-a1,<-a2] at hpv
  obtain ⟨c,rfl⟩:∃c:Nat,b=c:=⟨b.toNat,by omega⟩
  rw [Int.toNat_natCast] at h
  have hq:val a / c=val out:=by
   have:val a=c*val out+r.toNat:=by
    have:((val a:Nat):Int)=((c*val out+r.toNat:Nat):Int):=by
     rw [Int.natCast_add,Int.natCast_mul,Int.mul_comm];omega
    omega
   rw [this,Nat.add_comm,Nat.add_mul_div_left _ _ om,Nat.div_eq_of_lt om];omega
  have hm:val a % c=r.toNat:=by
   have:val a=c*val out+r.toNat:=by
    have:((val a:Nat):Int)=((c*val out+r.toNat:Nat):Int):=by
     rw [Int.natCast_add,Int.natCast_mul,Int.mul_comm];omega
    omega
   rw [this,Nat.add_comm,Nat.add_mul_mod_self_left,Nat.mod_eq_of_lt om]
  rw [hq,hm] at h
  rw [wrap_u32]
  have e:r % 4294967296=((r.toNat:Nat):Int):=om
  rw [e]
  exact h
end Go.Gg
namespace Go.Gg
theorem qx {n:Int} {Q:List Int->Prop} (h1:n<=9223372036854775807) (h:Q (lim n.toNat)):kw n Q:=by
 refine condT (λhc=>?_) (λhc=>?_)
 ·have:n.toNat=0:=om
  rw [this,c9] at h;exact h
 ·have e32:(2:Int)^Int.toNat 32=4294967296:=rfl
  rw [e32,wrap_u32,wrap_u32]
  have hw:Words [n % 4294967296,n / 4294967296 % 4294967296]:=(Words.nil.cons om om).cons om om
  refine cb hw (by simp [SM]) ?_
  have hv:val [n % 4294967296,n / 4294967296 % 4294967296]=n.toNat:=by
   rw [jH hw,jH hw.tail,mR];omega
  rw [hv];exact h
theorem Bm {a:List Int} (ha:Words a) {i:Nat} (hz:∀k,i<k->k<a.length->a.getD k 0=0) (hi:i<a.length) (hn:a.getD i 0≠0):(bX (val a):Int)=32*i+bX (a.getD i 0).toNat:=by
 have h0:=ha i
 have a1:=cm ha
 rw [m_ (j:=i+1) a.length hi (λk h1 h2=>hz k om h2),pv] at a1
 obtain ⟨b1,b2⟩:=bp ha i
 obtain ⟨x,hx⟩:∃x:Nat,a.getD i 0=x:=⟨(a.getD i 0).toNat,by omega⟩
 rw [hx] at a1 hn h0 ⊢
 rw [Int.toNat_natCast]
 have hx0:x≠0:=om
 have c1:=oR (n:=x)
 have c2:=nt hx0
 have hb:bX x≠0:=by unfold bX;rw [if_neg hx0];omega
 have ew:((4294967296^i:Nat):Int)=(4294967296:Int)^i:=by simp
 have e1:val a=(pv a i).toNat+x*4294967296^i:=by
  have:(val a:Int)=(((pv a i).toNat+x*4294967296^i:Nat):Int):=by
   rw [a1,Int.natCast_add,Int.natCast_mul,ew];omega
  omega
 have hlt:(pv a i).toNat<4294967296^i:=om
 have hpw:(4294967296:Nat)^i=2^(32*i):=by rw [Nat.pow_mul]
 have:bX (val a)=32*i+bX x:=by
  refine rP ?_ (λ_=>?_)
  ·rw [e1,Nat.pow_add,<-hpw]
   have:(x+1)*4294967296^i<=2^bX x*4294967296^i:=Nat.mul_le_mul_right _ c1
   rw [Nat.add_mul,Nat.mul_comm (2^bX x)] at this
   omega
  ·have e:32*i+bX x-1=32*i+(bX x-1):=om
   rw [e1,e,Nat.pow_add,<-hpw]
   have:2^(bX x-1)*4294967296^i<=x*4294967296^i:=Nat.mul_le_mul_right _ c2
   rw [Nat.mul_comm (2^(bX x-1))] at this
   omega
 omega
theorem t9 {a:List Int} {Q:Int->Prop} (ha:Words a) (la:SM a) (h:Q (bX (val a))):kX a Q:=by
 unfold SM at la
 refine ⟨by unfold rng;omega,λx=>∃j:Nat,x=(j:Int)-1/\j<=a.length/\∀k,j<=k->k<a.length->a.getD k 0=0,λx=>(x+1).toNat,⟨a.length,rfl,by omega,λk h1 h2=>om⟩,?_⟩
 rintro _ ⟨j,rfl,hj,hz⟩
 refine condT (λhc=>⟨⟨by omega,by omega⟩,?_⟩) (λhc=>?_)
 ·obtain ⟨i,rfl⟩:∃i,j=i+1:=⟨j-1,by omega⟩
  have ei:((i+1:Nat):Int)-1=(i:Int):=om
  rw [ei,fR]
  have h0:=ha i
  refine fl (λhn=>⟨by unfold rng;omega,⟨by omega,by omega⟩,?_⟩) (λhe=>⟨by unfold rng;omega,⟨i,rfl,by omega,λk h1 h2=>?_⟩,by dsimp only;omega⟩)
  ·have hb:=Bm ha (λk h1 h2=>hz k om h2) om hn
   obtain ⟨x,hx⟩:∃x:Nat,a.getD i 0=x:=⟨(a.getD i 0).toNat,by omega⟩
   rw [hx] at hb ⊢
   rw [Int.toNat_natCast] at hb
   have h32:=oS (x:=x) om
   refine Ag om ⟨by unfold rng;omega,?_⟩
   rw [<-hb];exact h
  ·by_cases hk:k=i
   ·subst hk;exact he
   ·exact hz k om h2
 ·obtain rfl:j=0:=om
  have:val a=0:=by
   have a1:=cm ha
   rw [m_ (j:=0) a.length om (λk h1 h2=>hz k h1 h2)] at a1
   simp only [pv] at a1;omega
  rw [this,v5] at h
  exact h
theorem fO {l:List Int} {j i:Nat}:(l.drop j).getD i 0=l.getD (j+i) 0:=by
 rw [List.getD_eq_getElem?_getD,List.getD_eq_getElem?_getD,List.getElem?_drop]
theorem si {l:List Int} {o i:Nat} {x:Int} (h:o+i<l.length):pv ((l.set (o+i) x).drop o) (i+1)=pv (l.drop o) i+x*4294967296^i:=by
 rw [pv,fO,jF h]
 congr 1
 exact jL i (λk hk=>by rw [fO,fO,ct om])
theorem t7 {u v:List Int} {o n:Nat} {g:Int} {Q:List Int->Bool->Prop} (hu:Words u) (hv:Words v) (lu:SM u) (ho:o+n<=u.length) (hn:v.length<n) (hg0:0<=g) (hg1:g<4294967296)
  (h:∀(w:List Int) (b:Int),Words w->w.length=u.length->(∀k,k<o\/o+n<=k->w.getD k 0=u.getD k 0)->(b=0\/b=1)->pv (w.drop o) n=pv (u.drop o) n-g*val v+b*4294967296^n->Q w (b == 1)) :
  kV u o n v g Q:=by
 unfold SM at lu
 refine ⟨λy=>∃i:Nat,y.2.2.1=i/\i<=n/\y.2.2.2.length=u.length/\Words y.2.2.2/\(∀k,k<o\/o+i<=k->y.2.2.2.getD k 0=u.getD k 0)/\0<=y.1/\y.1<4294967296/\0<=y.2.1/\y.2.1<=1/\0<=g*pv v i-y.1*4294967296^i/\g*pv v i-y.1*4294967296^i<4294967296^i/\
   pv (y.2.2.2.drop o) i=pv (u.drop o) i-(g*pv v i-y.1*4294967296^i)+y.2.1*4294967296^i,λy=>n-y.2.2.1.toNat,
  ⟨0,rfl,by omega,rfl,hu,λ_ _=>rfl,Int.le_refl 0,by show (0:Int)<4294967296;omega,Int.le_refl 0,by show (0:Int)<=1;omega,by simp [pv],by simp [pv],by simp [pv]⟩,?_⟩
 rintro ⟨c,b,x,w⟩ ⟨i,hx,hi,hlen,hw,hz,hc0,hc1,hb0,hb1,hl0,hl1,hpv⟩
 simp only at hx hi hlen hw hz hc0 hc1 hb0 hb1 hl0 hl1 hpv
 subst hx
 have hvi:=hv i
 have hwi:=hw (o+i)
 have eoi:(o:Int)+(i:Int)=((o+i:Nat):Int):=om
 refine condT (λhlt=>dA hv ?_) (λhge=>?_)
 ·have hm0:0<=g*v.getD i 0:=Int.mul_nonneg hg0 hvi.1
  have hm1:g*v.getD i 0<=4294967295*4294967295:=Int.mul_le_mul om om hvi.1 om
  rw [wrap_u64_id hm0 om,wrap_u64_id om om]
  refine hY ⟨⟨by omega,hlt⟩,by omega,?_⟩
  rw [eoi,fR]
  generalize hc':c+g*v.getD i 0=d at *
  rw [wrap_u64_id hwi.1 om,wrap_u32,wrap_u64_id (m:=d % 4294967296) om om]
  obtain ⟨q1,q2,q3⟩:=tA (w.getD (o+i) 0) (d % 4294967296) b hwi om ⟨hb0,hb1⟩
  refine hY ⟨⟨by omega,hlt⟩,by omega,by unfold rng;omega,?_,by dsimp only;omega⟩
  generalize IntKind.u64.wrap (IntKind.u64.wrap (w.getD (o+i) 0-d % 4294967296)-b)=e at *
  have e63:e / 2^Int.toNat 63=e / 9223372036854775808:=rfl
  have e32:d / 2^Int.toNat 32=d / 4294967296:=rfl
  rw [e63,e32,ft,wrap_u32]
  have hP:=eM i
  have p1:pv (u.drop o) (i+1)=pv (u.drop o) i+w.getD (o+i) 0*4294967296^i:=by rw [pv,fO,hz (o+i) om]
  have p2:g*pv v (i+1)=g*pv v i+g*v.getD i 0*4294967296^i:=by rw [pv,Int.mul_add,Int.mul_assoc]
  have p3:=Int.pow_succ (4294967296:Int) i
  have p0:=si (l:=w) (o:=o) (i:=i) (x:=e % 4294967296) om
  generalize (4294967296:Int)^i=P at *
  have s1:=lF d P
  have s3:d*P=c*P+g*v.getD i 0*P:=by rw [<-hc',Int.add_mul]
  have s5:d % 4294967296*P<=4294967295*P:=Int.mul_le_mul_of_nonneg_right om om
  have s6:0<=d % 4294967296*P:=Int.mul_nonneg om om
  refine ⟨i+1,rfl,by omega,by simp [hlen],hw.set _ om om,λk hk=>?_,by show 0<=d / 4294967296;omega,by show d / 4294967296<4294967296;omega,q2,q3,?_,?_,?_⟩
  ·show (w.set (o+i) _).getD k 0=_
   rw [ct om];exact hz k om
  ·show 0<=g*pv v (i+1)-d / 4294967296*4294967296^(i+1)
   rw [p2,p3];omega
  ·show g*pv v (i+1)-d / 4294967296*4294967296^(i+1)<4294967296^(i+1)
   rw [p2,p3];omega
  ·show pv ((w.set (o+i) (e % 4294967296)).drop o) (i+1)=pv (u.drop o) (i+1)-(g*pv v (i+1)-d / 4294967296*4294967296^(i+1))+e / 9223372036854775808*4294967296^(i+1)
   rw [p0,hpv,p1,p2,p3]
   have s0:e % 4294967296=w.getD (o+i) 0-d % 4294967296-b+4294967296*(e / 9223372036854775808):=om
   rw [s0]
   generalize e / 9223372036854775808=b' at *
   have s4:(w.getD (o+i) 0-d % 4294967296-b+4294967296*b')*P=w.getD (o+i) 0*P-d % 4294967296*P-b*P+b'*(P*4294967296):=by
    rw [Int.add_mul,Int.sub_mul,Int.sub_mul,Int.mul_comm 4294967296 b',Int.mul_assoc b',Int.mul_comm 4294967296 P]
   rw [s4]
   generalize d / 4294967296=d' at *
   generalize d % 4294967296=d'' at *
   clear q1 q2 q3 s0 s4 s5 s6 hpv
   omega
 ·obtain rfl:i=n:=om
  refine h w b hw hlen hz om ?_
  have a1:=dW hv (i:=i) om
  have hc:c=0:=by
   have hv1:=dW hv (i:=i-1) om
   have hb':=(bp hv (i-1)).2
   have hw0:=bp hw 0
   obtain ⟨m,rfl⟩:∃m,i=m+1:=⟨i-1,by omega⟩
   rw [Nat.add_sub_cancel] at hv1 hb'
   have hP:=eM m
   rw [Int.pow_succ] at hpv
   have hgv:g*pv v (m+1)<=4294967295*(4294967296^m-1):=by
    rw [<-a1,hv1]
    exact Int.mul_le_mul om om (bp hv m).1 om
   rw [Int.pow_succ] at hl0
   generalize (4294967296:Int)^m=P at *
   rcases Int.lt_or_le 0 c with hc | hc
   ·have:1*(P*4294967296)<=c*(P*4294967296):=Int.mul_le_mul_of_nonneg_right om om
    omega
   ·omega
  subst hc
  rw [a1]
  rw [hpv];omega
theorem t8 {u v:List Int} {o n:Nat} {Q:List Int->Prop} (hu:Words u) (hv:Words v) (lu:SM u) (ho:o+n<=u.length) (hn:v.length<=n)
  (h:∀(w:List Int) (c:Int),Words w->w.length=u.length->(∀k,k<o\/o+n<=k->w.getD k 0=u.getD k 0)->(c=0\/c=1)->pv (w.drop o) n+c*4294967296^n=pv (u.drop o) n+val v->Q w) :
  kW u o n v Q:=by
 unfold SM at lu
 refine ⟨λy=>∃i:Nat,y.2.1=i/\i<=n/\y.2.2.length=u.length/\Words y.2.2/\(∀k,k<o\/o+i<=k->y.2.2.getD k 0=u.getD k 0)/\0<=y.1/\y.1<=1/\
   pv (y.2.2.drop o) i+y.1*4294967296^i=pv (u.drop o) i+pv v i,λy=>n-y.2.1.toNat,
  ⟨0,rfl,by omega,rfl,hu,λ_ _=>rfl,Int.le_refl 0,by show (0:Int)<=1;omega,by simp [pv]⟩,?_⟩
 rintro ⟨c,x,w⟩ ⟨i,hx,hi,hlen,hw,hz,hc0,hc1,hpv⟩
 simp only at hx hi hlen hw hz hc0 hc1 hpv
 subst hx
 have hvi:=hv i
 have hwi:=hw (o+i)
 have eoi:(o:Int)+(i:Int)=((o+i:Nat):Int):=om
 refine condT (λhlt=>⟨⟨by omega,hlt⟩,by omega,v.getD i 0,dA hv rfl,⟨by omega,hlt⟩,by omega,?_⟩) (λhge=>?_)
 ·rw [eoi,fR,wrap_u64_id hwi.1 om,wrap_u64_id (m:=w.getD (o+i) 0+v.getD i 0) om om,wrap_u64_id om om]
  refine hY ⟨by unfold rng;omega,?_,by dsimp only;omega⟩
  have e32:∀d:Int,d / 2^Int.toNat 32=d / 4294967296:=λ_=>rfl
  rw [e32,ft,wrap_u32]
  generalize hd:c+(w.getD (o+i) 0+v.getD i 0)=d
  refine ⟨i+1,rfl,by omega,by simp [hlen],hw.set _ om om,λk hk=>?_,by show 0<=d / 4294967296;omega,by show d / 4294967296<=1;omega,?_⟩
  ·show (w.set (o+i) _).getD k 0=_
   rw [ct om];exact hz k om
  ·show pv ((w.set (o+i) (d % 4294967296)).drop o) (i+1)+d / 4294967296*4294967296^(i+1)=pv (u.drop o) (i+1)+pv v (i+1)
   have p0:=si (l:=w) (o:=o) (i:=i) (x:=d % 4294967296) om
   have p1:pv (u.drop o) (i+1)=pv (u.drop o) i+w.getD (o+i) 0*4294967296^i:=by rw [pv,fO,hz (o+i) om]
   have p2:pv v (i+1)=pv v i+v.getD i 0*4294967296^i:=by rw [pv]
   rw [p0,p1,p2,Int.pow_succ]
   have s1:=lF d (4294967296^i)
   have s3:d*4294967296^i=c*4294967296^i+(w.getD (o+i) 0*4294967296^i+v.getD i 0*4294967296^i):=by rw [<-hd,Int.add_mul,Int.add_mul]
   omega
 ·obtain rfl:i=n:=om
  have a1:=dW hv (i:=i) om
  exact h w c hw hlen hz om (by rw [a1];exact hpv)
end Go.Gg
namespace Go.Gg
theorem jl {a b c:Nat} (h:a+b=c):(2:Int)^a*2^b=2^c:=by rw [<-Int.pow_add,h]
theorem ym {V P B top nx vl head th pl g:Int} (hV:V=(top*4294967296+nx)*B+vl) (hvl:0<=vl) (hP:P=(head*4294967296+th)*B+pl) (hpl:pl<B) (hB:0<B) (hg:0<=g)
  (h:head*4294967296+th<g*(top*4294967296+nx)):P<g*V:=by
 have h1:(head*4294967296+th+1)*B<=g*(top*4294967296+nx)*B:=Int.mul_le_mul_of_nonneg_right om om
 have h2:0<=g*vl:=Int.mul_nonneg hg hvl
 rw [hV,Int.mul_add,<-Int.mul_assoc]
 rw [Int.add_mul] at h1
 omega
theorem yn {V P B top nx vl head th pl g:Int} (hV:V=(top*4294967296+nx)*B+vl) (hvl0:0<=vl) (hvl:vl<B) (hP:P=(head*4294967296+th)*B+pl) (hpl:0<=pl) (hg0:0<=g) (hg:g<4294967296) (hVB:4294967296*B<=V)
  (h:g*(top*4294967296+nx)<=head*4294967296+th):(g-1)*V<=P:=by
 have h1:g*(top*4294967296+nx)*B<=(head*4294967296+th)*B:=Int.mul_le_mul_of_nonneg_right h om
 have h2:g*vl<=4294967296*B:=Int.mul_le_mul om om hvl0 om
 rw [Int.sub_mul,hV,Int.mul_add,<-Int.mul_assoc]
 rw [<-hV]
 omega
theorem mA {l:List Int} {i:Nat}:∀n,pv l (i+n)=pv l i+pv (l.drop i) n*4294967296^i
 | 0=>by simp [pv]
 | n+1=>by
  rw [<-Nat.add_assoc,pv,mA n,pv,fO,Int.add_mul,Int.pow_add,Int.mul_assoc (l.getD (i+n) 0),Int.mul_comm (4294967296^n)]
  omega
theorem ww {l m:List Int} {i n:Nat} (h:∀k,k<i\/i+n<=k->l.getD k 0=m.getD k 0):∀M,i+n<=M->pv l M-pv m M=(pv (l.drop i) n-pv (m.drop i) n)*4294967296^i
 | 0,hM=>by
  have h1:i=0:=om
  have h2:n=0:=om
  subst h1 h2
  simp [pv]
 | M+1,hM=>by
  by_cases he:i+n=M+1
  ·rw [<-he,mA,mA,jL i (λk hk=>h k (.inl hk)),Int.sub_mul];omega
  ·rw [pv,pv,h M (.inr om)]
   have:=ww h M om
   omega
theorem wD {n:Nat} (h:n≠0):(lim n).getD ((lim n).length-1) 0≠0:=by
 induction n using Nat.strongRecOn with
 | _ n ih=>
  rw [fA om]
  simp only [List.length_cons,Nat.add_sub_cancel]
  by_cases h0:n / 4294967296=0
  ·rw [h0,c9];simp;omega
  ·have h1:=ih _ (Nat.div_lt_self om om) h0
   have h2:(lim (n / 4294967296)).length≠0:=by rw [fA om];simp
   obtain ⟨k,hk⟩:∃k,(lim (n / 4294967296)).length=k+1:=⟨_,(Nat.succ_pred_eq_of_ne_zero h2).symm⟩
   rw [hk] at h1 ⊢
   simpa using h1
theorem ze {top nx hd1 hd2 th V P B vl pl:Int} {next3:Int->Prop} {G1 G2 G3:Prop} (hG1:G1) (hG2:G2) (hG3:G3) (htop0:2147483648<=top) (htop:top<4294967296) (hnx:0<=nx/\nx<4294967296) (h1:0<=hd1/\hd1<=top) (h2:0<=hd2/\hd2<4294967296) (h3:0<=th/\th<4294967296)
  (hV:V=(top*4294967296+nx)*B+vl) (hvl:0<=vl/\vl<B) (hP:P=((hd1*4294967296+hd2)*4294967296+th)*B+pl) (hpl:0<=pl/\pl<B) (hB:0<B) (hPV:P<V*4294967296)
  (hn:∀g,0<=g->g<4294967296->P<(g+1)*V->(g-1)*V<=P->next3 g) :
  bh (σ:=Int×Int) (IntKind.u64.wrap (Int.tdiv (hd1*4294967296+hd2) top),Int.tmod (hd1*4294967296+hd2) top) λ⟨guess2,rest⟩ next4=>
   dk (α:=Unit) (λnext5=>ah (decide (4294967296<=guess2)) (next5 ()) (G1/\G2/\G3/\ah (decide (bits .or .u64 (IntKind.u64.wrap (rest*4294967296)) th<IntKind.u64.wrap (guess2*nx))) (next5 ()) (next3 guess2)))
    λ_=>ko (IntKind.u64.wrap (rest+top)) λrest1=>ah (decide (4294967296<=rest1)) (next3 (IntKind.u64.wrap (guess2-1))) (next4 (IntKind.u64.wrap (guess2-1),rest1)):=by
 have hhd0:0<=hd1*4294967296+hd2:=om
 have hVB:4294967296*B<=V:=by
  have:4294967296*B<=(top*4294967296+nx)*B:=Int.mul_le_mul_of_nonneg_right om om
  omega
 generalize hhd:hd1*4294967296+hd2=head at *
 have hhead:head<=top*4294967296+4294967295:=om
 have hq0:0<=head / top:=Int.ediv_nonneg hhd0 om
 have hr0:0<=head % top:=Int.emod_nonneg _ om
 have hr1:head % top<top:=Int.emod_lt_of_pos _ om
 have hde:head=top*(head / top)+head % top:=(Int.mul_ediv_add_emod head top).symm
 have hqu:head / top<4294967298:=by
  rw [Int.ediv_lt_iff_lt_mul om];omega
 rw [Int.tdiv_eq_ediv_of_nonneg hhd0,Int.tmod_eq_emod_of_nonneg hhd0,wrap_u64_id hq0 om]
 refine ⟨λy=>0<=y.1/\y.1<4294967298/\0<=y.2/\y.2<4294967296/\head=y.1*top+y.2/\P<(y.1+1)*V,λy=>y.1.toNat,⟨hq0,hqu,hr0,by show head % top<_;omega,by show head=head / top*top+head % top;rw [Int.mul_comm];exact hde,?_⟩,?_⟩
 ·show P<(head / top+1)*V
  refine ym hV hvl.1 hP hpl.2 hB om ?_
  have a1:(head / top+1)*top=top*(head / top)+top:=by rw [Int.add_mul,Int.mul_comm];omega
  have a2:(head / top+1)*(top*4294967296+nx)=(head / top+1)*top*4294967296+(head / top+1)*nx:=by rw [Int.mul_add,Int.mul_assoc]
  have a3:0<=(head / top+1)*nx:=Int.mul_nonneg om hnx.1
  omega
 rintro ⟨g,r⟩ ⟨hg0,hg1,hr0,hr1,hh,hU⟩
 simp only at hg0 hg1 hr0 hr1 hh hU
 have hexp:g*(top*4294967296+nx)=(g*top)*4294967296+g*nx:=by rw [Int.mul_add,Int.mul_assoc]
 refine ⟨λ_=>P<g*V,condT (λhc=>?_) (λhc=>⟨hG1,hG2,hG3,?_⟩),λ_ hlt=>?_⟩
 ·have:V*4294967296<=g*V:=by rw [Int.mul_comm V];exact Int.mul_le_mul_of_nonneg_right hc om
  omega
 ·have hgn0:0<=g*nx:=Int.mul_nonneg hg0 hnx.1
  have hgn1:g*nx<=4294967295*4294967295:=Int.mul_le_mul om om hnx.1 om
  rw [wrap_u64_id (m:=r*4294967296) om om,wrap_u64_id hgn0 om,t5 32 h3.1 h3.2 om (by show _ % 4294967296=0;omega) om]
  refine condT (λhgt=>?_) (λhle=>?_)
  ·exact ym hV hvl.1 hP hpl.2 hB hg0 om
  ·exact hn g hg0 om hU (yn hV hvl.1 hvl.2 hP hpl.1 hg0 om hVB om)
 ·have hg1':1<=g:=by
   rcases Int.lt_or_le g 1 with h | h
   ·have:g=0:=om
    subst this
    have hP0:0<=P:=by
     rw [hP]
     have:0<=(head*4294967296+th)*B:=Int.mul_nonneg om om
     omega
    simp at hlt;omega
   ·exact h
  rw [wrap_u64_id (m:=r+top) om om,wrap_u64_id (m:=g-1) om om]
  have hsub:(g-1)*top=g*top-top:=by rw [Int.sub_mul];omega
  have hexp2:(g-1)*(top*4294967296+nx)=((g-1)*top)*4294967296+(g-1)*nx:=by rw [Int.mul_add,Int.mul_assoc]
  refine hY (condT (λhc=>?_) (λhc=>⟨⟨by show 0<=g-1;omega,by show g-1<_;omega,by show 0<=r+top;omega,by show r+top<_;omega,by show head=(g-1)*top+(r+top);omega,by show P<(g-1+1)*V;rw [Int.sub_add_cancel];exact hlt⟩,by show (g-1).toNat<g.toNat;omega⟩))
  have hgW:g-1<4294967296:=by
   rcases Int.lt_or_le (g-1) 4294967296 with h | h
   ·exact h
   ·have:4294967296*top<=(g-1)*top:=Int.mul_le_mul_of_nonneg_right h om
    omega
  have hgn1:(g-1)*nx<=4294967295*4294967295:=Int.mul_le_mul om om hnx.1 om
  refine hn (g-1) om hgW (by rw [Int.sub_add_cancel];exact hlt) (yn hV hvl.1 hvl.2 hP hpl.1 om hgW hVB om)
set_option maxHeartbeats 2000000 in
theorem mj {a b:List Int} {Q:List Int->List Int->Option Int->Prop} (ha:Words a) (hb:Words b) (la:a.length<=1099511627774) (lb:b.length<=1099511627774)
  (h0:val b=0->Q [] [] (some 8)) (h:val b≠0->Q (lim (val a / val b)) (lim (val a % val b)) none):hH a b Q:=by
 refine cb ha (by unfold SM;omega) (cb hb (by unfold SM;omega) ?_)
 have b1:=dj ha
 have b2:=dj hb
 have w1:=aI (val a)
 have w2:=aI (val b)
 have v1:=aW (val a)
 have v2:=aW (val b)
 refine bO (λhc=>?_) (λhc=>?_)
 ·have:(lim (val b)).length=0:=om
  have:lim (val b)=[]:=List.eq_nil_of_length_eq_zero this
  rw [this,mR] at v2
  exact h0 v2.symm
 have hB:val b≠0:=by intro hh;rw [hh,c9] at hc;exact hc rfl
 replace h:=h hB
 clear h0
 refine fN w1 w2 (by unfold SM;omega) (by unfold SM;omega) ?_
 rw [v1,v2]
 refine condT (λhlt=>?_) (λhge=>bO (λh1=>?_) (λh1=>?_))
 ·have:=kA.1 hlt
  rw [Nat.div_eq_of_lt this,Nat.mod_eq_of_lt this,c9] at h
  exact h
 ·
  have hl1:(lim (val b)).length=1:=om
  have hw0:=w2 0
  have hbv:(val b:Int)=(lim (val b)).getD 0 0:=by
   have:=cm w2
   rw [v2,hl1] at this
   simpa [pv] using this
  refine ⟨⟨by omega,by omega⟩,?_⟩
  have e0:at' (lim (val b)) 0=(val b:Int):=by rw [hbv];rfl
  rw [e0]
  have hm:val a % val b<val b:=Nat.mod_lt _ om
  refine sO w1 (by unfold SM;omega) om om ?_
  rw [v1,Int.toNat_natCast,iM (by unfold rng;omega)]
  refine qx om ?_
  rw [Int.toNat_natCast]
  exact h
 obtain ⟨m,hm⟩:∃m,(lim (val b)).length=m+2:=⟨(lim (val b)).length-2,by omega⟩
 have hge':val b<=val a:=by
  rcases Nat.lt_or_ge (val a) (val b) with hh | hh
  ·exact absurd (kA.2 hh) hge
  ·exact hh
 have hlen:m+2<=(lim (val a)).length:=by rw [<-hm];exact cF hge'
 generalize hA:val a=A at *
 generalize hBv:val b=B at *
 have htop:=wD hB
 have hbd:(val (lim B):Int)=_:=cm w2
 rw [v2] at hbd
 have hAp:(A:Int)<4294967296^(lim A).length:=by
  have:=(bp w1 (lim A).length).2
  have e:=cm w1
  rw [v1] at e;omega
 generalize hla:lim A=al at *
 generalize hlb:lim B=bl at *
 rw [hm] at htop hbd
 have e21:m+2-1=m+1:=om
 rw [e21] at htop
 have hwt:=w2 (m+1)
 have hml:(bl.length:Int)-1=((m+1:Nat):Int):=om
 rw [hml]
 obtain ⟨tp,htp⟩:∃x:Nat,bl.getD (m+1) 0=x:=⟨(bl.getD (m+1) 0).toNat,by omega⟩
 refine ⟨by unfold rng;omega,⟨by omega,by omega⟩,?_⟩
 rw [fR,htp]
 rw [htp] at htop hwt
 have htp0:tp≠0:=om
 have c1:=oR (n:=tp)
 have c2:=nt htp0
 have c3:=oS (x:=tp) om
 have c4:bX tp≠0:=by unfold bX;rw [if_neg htp0];omega
 refine FQ om ?_
 obtain ⟨s,hs⟩:∃s,32-bX tp=s:=⟨_,rfl⟩
 rw [hs]
 have hs31:s<=31:=om
 refine n_ w2 om om (λr4 hr4 hr4l hr4v=>?_)
 rw [hm] at hr4l
 rw [v2] at hr4v
 refine ⟨⟨by omega,by omega,by omega⟩,hY ?_⟩
 have hvl:(cB r4 0 (bl.length:Int))=r4.take (m+2):=by
  show (r4.drop 0).take (((bl.length:Nat):Int).toNat-0)=_
  rw [Int.toNat_natCast,hm];rfl
 rw [hvl]
 have hvlen:(r4.take (m+2)).length=m+2:=by rw [List.length_take,hr4l];omega
 have hPm:=eM m
 have ew:(4294967296:Int)^(m+2)=4294967296^m*4294967296*4294967296:=by rw [Int.pow_succ,Int.pow_succ]
 have ew1:(4294967296:Int)^(m+1)=4294967296^m*4294967296:=Int.pow_succ ..
 have hbd2:(B:Int)=pv bl m+bl.getD m 0*4294967296^m+tp*(4294967296^m*4294967296):=by rw [hbd,pv,pv,htp,ew1]
 have hbm:=bp w2 m
 have hbm1:=w2 m
 have hlow:bl.getD m 0*4294967296^m<=4294967295*4294967296^m:=Int.mul_le_mul_of_nonneg_right om om
 have hlow0:0<=bl.getD m 0*4294967296^m:=Int.mul_nonneg hbm1.1 om
 have hps:=e8 s
 have hts:(tp:Int)*2^s<4294967296/\2147483648<=(tp:Int)*2^s:=by
  have e1:(2:Int)^(bX tp)*2^s=4294967296:=jl (c:=32) om
  have e2:(2:Int)^(bX tp-1)*2^s=2147483648:=jl (c:=31) om
  have f1:(tp:Int)+1<=2^(bX tp):=by exact_mod_cast c1
  have f2:(2:Int)^(bX tp-1)<=tp:=by exact_mod_cast c2
  have g1:((tp:Int)+1)*2^s<=2^(bX tp)*2^s:=Int.mul_le_mul_of_nonneg_right f1 om
  have g2:(2:Int)^(bX tp-1)*2^s<=tp*2^s:=Int.mul_le_mul_of_nonneg_right f2 om
  rw [Int.add_mul] at g1
  omega
 have hVval:((val r4:Nat):Int)=(B:Int)*2^s:=by rw [hr4v];simp
 have hr4p:=cm hr4
 rw [hr4l] at hr4p
 have hVlt:(val r4:Int)<4294967296^(m+2):=by
  have k1:(B:Int)+1<=(tp+1)*(4294967296^m*4294967296):=by rw [Int.add_mul];omega
  have k2:((B:Int)+1)*2^s<=((tp+1)*(4294967296^m*4294967296))*2^s:=Int.mul_le_mul_of_nonneg_right k1 om
  have k3:(((tp:Int)+1)*2^s)<=4294967296:=by
   have f1:(tp:Int)+1<=2^(bX tp):=by exact_mod_cast c1
   have e1:(2:Int)^(bX tp)*2^s=4294967296:=jl (c:=32) om
   have g1:((tp:Int)+1)*2^s<=2^(bX tp)*2^s:=Int.mul_le_mul_of_nonneg_right f1 om
   omega
  have k4:(((tp:Int)+1)*2^s)*(4294967296^m*4294967296)<=4294967296*(4294967296^m*4294967296):=Int.mul_le_mul_of_nonneg_right k3 om
  rw [Int.mul_right_comm] at k2
  rw [Int.add_mul] at k2
  rw [hVval,ew]
  omega
 have hVge:2147483648*(4294967296^m*4294967296)<=(val r4:Int):=by
  have k1:(tp:Int)*(4294967296^m*4294967296)<=B:=om
  have k2:(tp:Int)*(4294967296^m*4294967296)*2^s<=B*2^s:=Int.mul_le_mul_of_nonneg_right k1 om
  have k3:2147483648*(4294967296^m*4294967296)<=(tp:Int)*2^s*(4294967296^m*4294967296):=Int.mul_le_mul_of_nonneg_right hts.2 om
  rw [Int.mul_right_comm] at k2
  omega
 have hVp:(val r4:Int)=pv (r4.take (m+2)) (m+2):=by
  rw [hr4p] at hVlt ⊢
  rw [zW (Nat.le_refl _)]
  exact qi hr4 om hVlt
 have hwv:Words (r4.take (m+2)):=hr4.take _
 have hvv:val (r4.take (m+2))=val r4:=by
  have:=cm hwv
  rw [hvlen,<-hVp] at this;omega
 generalize hv:r4.take (m+2)=v at *
 generalize hVV:val r4=V at *
 clear hr4 hr4l hr4p hvl
 refine n_ w1 om om (λu hu hul huv=>?_)
 rw [v1] at huv
 have hvl1:(v.length:Int)-1=((m+1:Nat):Int):=om
 have hvl2:(v.length:Int)-2=(m:Int):=om
 obtain ⟨K,hK⟩:∃K,al.length=K+(m+2):=⟨al.length-(m+2),by omega⟩
 have hkl:(u.length:Int)-(v.length:Int)=((K+1:Nat):Int):=om
 rw [hvl1,hvl2,hkl]
 refine ⟨by unfold rng;omega,⟨by omega,by omega⟩,by unfold rng;omega,⟨by omega,by omega⟩,by unfold rng;omega,qy om om,by unfold rng;omega,hY ?_⟩
 rw [Int.toNat_natCast]
 have hU:(val u:Int)<V*4294967296^(K+1):=by
  have k0:((val u:Nat):Int)=(A:Int)*2^s:=by rw [huv];simp
  have k1:(2:Int)^s<=2147483648:=by
   have:(2:Int)^s*2^(31-s)=2147483648:=jl (c:=31) om
   have h2:=e8 (31-s)
   have:(2:Int)^s*1<=2^s*2^(31-s):=Int.mul_le_mul_of_nonneg_left om om
   omega
  have k2:(A:Int)*2^s<4294967296^al.length*2^s:=Int.mul_lt_mul_of_pos_right hAp hps
  have k3:(4294967296:Int)^al.length*2^s<=4294967296^al.length*2147483648:=Int.mul_le_mul_of_nonneg_left k1 (by have:=eM al.length;omega)
  have k4:(4294967296:Int)^al.length=4294967296^m*4294967296*4294967296^(K+1):=by
   rw [hK,<-Int.pow_succ,<-Int.pow_add];congr 1;omega
  rw [k4] at k2 k3
  have k6:(2147483648:Int)*(4294967296^m*4294967296*4294967296^(K+1))=4294967296^m*4294967296*4294967296^(K+1)*2147483648:=Int.mul_comm _ _
  have k7:(2147483648:Int)*(4294967296^m*4294967296)*4294967296^(K+1)=2147483648*(4294967296^m*4294967296*4294967296^(K+1)):=Int.mul_assoc ..
  have hPK:=eM (K+1)
  have k8:(2147483648:Int)*(4294967296^m*4294967296)*4294967296^(K+1)<=(V:Int)*4294967296^(K+1):=Int.mul_le_mul_of_nonneg_right hVge (Int.le_of_lt hPK)
  omega
 have hup:=cm hu
 have hulk:u.length=K+m+3:=om
 rw [hulk] at hup
 have hvm:=hwv m
 have hvm1:=hwv (m+1)
 have hVexp:(V:Int)=(v.getD (m+1) 0*4294967296+v.getD m 0)*4294967296^m+pv v m:=by
  rw [hVp,pv,pv,ew1,Int.add_mul,Int.mul_assoc,Int.mul_comm 4294967296];omega
 have hvlo:=bp hwv m
 have htopge:2147483648<=v.getD (m+1) 0:=by
  rcases Int.lt_or_le (v.getD (m+1) 0) 2147483648 with hh | hh
  ·exfalso
   have k1:(v.getD (m+1) 0*4294967296+v.getD m 0+1)*4294967296^m<=(2147483647*4294967296+4294967296)*4294967296^m:=Int.mul_le_mul_of_nonneg_right om om
   rw [Int.add_mul] at k1
   omega
  ·exact hh
 have hV0:0<(V:Int):=om
 refine ⟨λy=>∃j:Nat,y.1=(j:Int)-1/\j<=K+1/\y.2.1.length=K+m+3/\Words y.2.1/\y.2.2.length=K+1/\Words y.2.2/\(∀k,k<j->y.2.2.getD k 0=0)/\
   (val u:Int)=pv y.2.2 (K+1)*V+pv y.2.1 (K+m+3)/\pv y.2.1 (K+m+3)<V*4294967296^j,λy=>(y.1+1).toNat,
  ⟨K+1,rfl,Nat.le_refl _,hulk,hu,by simp [bu],Words.rep _,λk hk=>?_,?_,?_⟩,?_⟩
 ·show (List.replicate (K+1) (0:Int)).getD k 0=0
  rw [List.getD_eq_getElem?_getD,List.getElem?_replicate];split<;>rfl
 ·show (val u:Int)=pv (List.replicate (K+1) (0:Int)) (K+1)*V+pv u (K+m+3)
  rw [pD,<-hup];omega
 ·show pv u (K+m+3)<_
  rw [<-hup];exact hU
 clear hU hup hulk hul hu
 rintro ⟨x,u1,q⟩ ⟨j,hx,hj,hul1,hu1,hql,hq,hqz,hsum,hrem⟩
 simp only at hx hj hul1 hu1 hql hq hqz hsum hrem
 subst hx
 refine condT (λhc=>?_) (λhc=>?_)
 ·obtain ⟨i,rfl⟩:∃i,j=i+1:=⟨j-1,by omega⟩
  have ei:((i+1:Nat):Int)-1=(i:Int):=om
  have f1:(i:Int)+(v.length:Int)=((i+(m+2):Nat):Int):=om
  have f2:((i+(m+2):Nat):Int)-1=((i+(m+1):Nat):Int):=om
  have f3:((i+(m+2):Nat):Int)-2=((i+m:Nat):Int):=om
  have f4:((i+(m+2):Nat):Int)+1=((i+(m+3):Nat):Int):=om
  have f5:0+Int.toNat (i:Int)=i:=om
  have f6:Int.toNat ((i+(m+3):Nat):Int)-Int.toNat (i:Int)=m+3:=om
  have h1:=hu1 (i+(m+2))
  have h2:=hu1 (i+(m+1))
  have h3:=hu1 (i+m)
  have e32:(2:Int)^Int.toNat 32=4294967296:=rfl
  have g1:=wrap_u64_id (m:=u1.getD (i+(m+2)) 0) om om
  have g2:=wrap_u64_id (m:=u1.getD (i+(m+1)) 0) om om
  have g3:=wrap_u64_id (m:=u1.getD (i+m) 0) om om
  have g4:=wrap_u64_id (m:=v.getD (m+1) 0) om om
  have g5:=wrap_u64_id (m:=v.getD m 0) om om
  have g6:=wrap_u64_id (m:=u1.getD (i+(m+2)) 0*4294967296) om om
  have g7:=t5 (x:=u1.getD (i+(m+1)) 0) (y:=u1.getD (i+(m+2)) 0*4294967296) 32 h2.1 h2.2 om (by show _ % 4294967296=0;omega) om
  simp only [ei,f1,f2,f3,f4,f5,f6,fR,e32,g1,g2,g3,g4,g5,g6,g7]
  obtain ⟨P,hPd⟩:∃P,P=pv (u1.drop i) (m+3):=⟨_,rfl⟩
  have hPi:=eM i
  have hud:Words (u1.drop i):=hu1.drop i
  have hPb:=bp hud (m+3)
  have htot:pv u1 (K+m+3)=pv u1 i+P*4294967296^i:=by
   have k0:K+m+3=i+((m+3)+(K-i)):=om
   rw [k0,mA]
   congr 2
   rw [hPd]
   refine qi hud om ?_
   rw [k0,mA,Int.pow_succ] at hrem
   have k1:=(bp hu1 i).1
   have k2:pv (u1.drop i) (m+3+(K-i))*4294967296^i<(V*4294967296)*4294967296^i:=by
    rw [Int.mul_assoc,Int.mul_comm 4294967296];omega
   have k3:=Int.lt_of_mul_lt_mul_right k2 (Int.le_of_lt hPi)
   have k4:(4294967296:Int)^(m+3)=4294967296^(m+2)*4294967296:=Int.pow_succ ..
   omega
  have hPV:P<V*4294967296:=by
   have k1:=(bp hu1 i).1
   rw [htot,Int.pow_succ] at hrem
   have k2:P*4294967296^i<(V*4294967296)*4294967296^i:=by
    rw [Int.mul_assoc,Int.mul_comm 4294967296];omega
   exact Int.lt_of_mul_lt_mul_right k2 (Int.le_of_lt hPi)
  have hP0:0<=P:=by rw [hPd];exact hPb.1
  have hPexp:P=((u1.getD (i+(m+2)) 0*4294967296+u1.getD (i+(m+1)) 0)*4294967296+u1.getD (i+m) 0)*4294967296^m+pv (u1.drop i) m:=by
   rw [hPd,pv,pv,pv,fO,fO,fO,ew,ew1]
   generalize (4294967296:Int)^m=B
   generalize pv (u1.drop i) m=z
   grind
  have hhd:u1.getD (i+(m+2)) 0<=v.getD (m+1) 0:=by
   rcases Int.lt_or_le (v.getD (m+1) 0) (u1.getD (i+(m+2)) 0) with hh | hh
   ·exfalso
    have k1:(v.getD (m+1) 0+1)*(4294967296^m*4294967296*4294967296)<=u1.getD (i+(m+2)) 0*(4294967296^m*4294967296*4294967296):=Int.mul_le_mul_of_nonneg_right om om
    have k2:P=u1.getD (i+(m+2)) 0*(4294967296^m*4294967296*4294967296)+pv (u1.drop i) (m+2):=by rw [hPd,pv,fO,ew];omega
    have k3:=(bp hud (m+2)).1
    have k4:(V:Int)=v.getD (m+1) 0*(4294967296^m*4294967296)+pv v (m+1):=by rw [hVp,pv,ew1];omega
    have k5:=(bp hwv (m+1)).2
    rw [ew1] at k5
    have k6:(V:Int)*4294967296<(v.getD (m+1) 0+1)*(4294967296^m*4294967296*4294967296):=by
     rw [Int.add_mul,<-Int.mul_assoc (v.getD (m+1) 0),k4];omega
    omega
   ·exact hh
  refine ⟨by unfold rng;omega,⟨by omega,by omega⟩,by unfold rng;omega,by unfold rng;omega,⟨by omega,by omega⟩,by omega,by omega,λg=>0<=g/\g<4294967296/\P<(g+1)*V/\(g-1)*V<=P,
   ze (next3:=λg=>0<=g/\g<4294967296/\P<(g+1)*V/\(g-1)*V<=P) (G1:=rng ((i+(m+2):Nat):Int)) (G2:=rng ((i+m:Nat):Int)) (G3:=(0:Int)<=((i+m:Nat):Int)/\((i+m:Nat):Int)<(u1.length:Int)) (by unfold rng;omega) (by unfold rng;omega) ⟨by omega,by omega⟩ htopge hvm1.2 hvm ⟨h1.1,hhd⟩ h2 h3 hVexp hvlo hPexp (bp hud m) hPm hPV (λg a1 a2 a3 a4=>⟨a1,a2,a3,a4⟩),?_⟩
  rintro g ⟨hg0,hg1,hgU,hgL⟩
  have hPW:(4294967296:Int)^(m+3)=4294967296^(m+2)*4294967296:=Int.pow_succ ..
  refine ⟨λy=>Words y.2/\y.2.length=K+m+3/\(∀k,k<i\/i+(m+3)<=k->y.2.getD k 0=u1.getD k 0)/\0<=y.1/\y.1<4294967296/\pv (y.2.drop i) (m+3)=P-y.1*V/\P-y.1*V<V,?_,?_⟩
  ·refine ⟨by unfold rng;omega,by unfold rng;omega,⟨by omega,by omega,by omega⟩,?_⟩
   refine t7 hu1 hwv (by unfold SM;omega) om om hg0 hg1 (λw b hw hwl hwz hb hwp=>⟨hwl,?_⟩)
   rw [hvv,<-hPd] at hwp
   have hwd:=bp (hw.drop i) (m+3)
   have hgs:(g-1)*(V:Int)=g*V-V:=by rw [Int.sub_mul];omega
   have hga:(g+1)*(V:Int)=g*V+V:=by rw [Int.add_mul];omega
   rcases hb with rfl | rfl
   ·refine ⟨λhh=>(by cases hh),λ_=>⟨hw,by show w.length=_;omega,hwz,hg0,hg1,?_,?_⟩⟩
    ·show pv (w.drop i) (m+3)=P-g*V
     omega
    ·show P-g*V<V
     omega
   ·refine ⟨λ_=>⟨by unfold rng;omega,by unfold rng;omega,⟨by omega,by omega,by omega⟩,?_⟩,λhh=>by cases hh⟩
    refine t8 hw hwv (by unfold SM;omega) om om (λw' c hw' hwl' hwz' hc' hwp'=>⟨hwl',?_⟩)
    rw [hvv] at hwp'
    have hwd':=bp (hw'.drop i) (m+3)
    have hg1':1<=g:=by
     rcases Int.lt_or_le g 1 with hh | hh
     ·have:g=0:=om
      subst this
      omega
     ·exact hh
    rw [wrap_u64_id (m:=g-1) om om]
    refine ⟨hw',by show w'.length=_;omega,λk hk=>?_,by show 0<=g-1;omega,by show g-1<_;omega,?_,?_⟩
    ·show w'.getD k 0=_
     rw [hwz' k hk,hwz k hk]
    ·show pv (w'.drop i) (m+3)=P-(g-1)*V
     rcases hc' with rfl | rfl<;>omega
    ·show P-(g-1)*V<V
     omega
  ·rintro ⟨g',u2⟩ ⟨hu2,hul2,hz2,hg0',hg1',hp2,hr2⟩
   simp only at hu2 hul2 hz2 hg0' hg1' hp2 hr2
   refine ⟨⟨by omega,by omega⟩,by unfold rng;omega,⟨i,rfl,by omega,hul2,hu2,by simp [bq,hql],?_,λk hk=>?_,?_,?_⟩,by first | omega | (dsimp only;omega)⟩
   ·rw [wrap_u32,ft];exact hq.set _ om om
   ·show (bq q (i:Int) _).getD k 0=0
    rw [ft,ct om];exact hqz k om
   ·show (val u:Int)=pv (bq q (i:Int) (IntKind.u32.wrap g')) (K+1)*V+pv u2 (K+m+3)
    have k0:=ww hz2 (K+m+3) om
    have hgm:g' % 4294967296=g':=om
    rw [ft,wrap_u32,hgm,gk om (K+1) om,hqz i om,Int.sub_zero,hsum,Int.add_mul]
    rw [hp2,<-hPd] at k0
    have k1:(P-g'*V-P)*4294967296^i = - (g'*4294967296^i*V):=by
     have:P-g'*V-P = - (g'*V):=om
     rw [this,Int.neg_mul,Int.mul_right_comm]
    omega
   ·show pv u2 (K+m+3)<V*4294967296^i
    have k0:=ww hz2 (K+m+3) om
    rw [hp2,<-hPd,htot] at k0
    have k1:=(bp hu1 i).2
    have k2:(P-g'*V+1)*4294967296^i<=V*4294967296^i:=Int.mul_le_mul_of_nonneg_right om om
    have k3:(P-g'*V-P)*4294967296^i=(P-g'*V)*4294967296^i-P*4294967296^i:=by rw [Int.sub_mul]
    rw [Int.add_mul] at k2
    omega
 ·obtain rfl:j=0:=om
  rw [Int.pow_zero,Int.mul_one] at hrem
  have hq1:=cm hq
  have hu1v:=cm hu1
  rw [hql] at hq1
  rw [hul1] at hu1v
  rw [<-hq1,<-hu1v] at hsum
  rw [<-hu1v] at hrem
  have hsumN:val u=val q*V+val u1:=by
   have:((val u:Nat):Int)=((val q*V+val u1:Nat):Int):=by rw [Int.natCast_add,Int.natCast_mul];exact hsum
   omega
  have hVB:V=B*2^s:=hr4v
  have hps':0<2^s:=Nat.pow_pos om
  have hV0':0<V:=om
  have hdiv:A / B=val q:=by
   have k1:A*2^s / (B*2^s)=A / B:=Nat.mul_div_mul_right _ _ hps'
   rw [<-k1,<-huv,<-hVB,hsumN,Nat.add_comm,Nat.add_mul_div_right _ _ hV0',Nat.div_eq_of_lt om];omega
  have hmod:A % B=val u1 / 2^s:=by
   have k1:A*2^s % (B*2^s)=A % B*2^s:=Nat.mul_mod_mul_right _ _ _
   rw [<-huv,<-hVB,hsumN,Nat.add_comm,Nat.add_mul_mod_self_right,Nat.mod_eq_of_lt om] at k1
   rw [k1,Nat.mul_div_cancel _ hps']
  refine cb hq (by unfold SM;omega) (sP hu1 (by unfold SM;omega) om (λr hr hrl hrv=>cb hr (by unfold SM;omega) ?_))
  rw [hrv,<-hmod,<-hdiv]
  exact h
theorem pg {a b:List Int} {Q:List Int->Prop} (ha:Words a) (hb:Words b) (la:a.length<=1099511627774) (lb:b.length<=1099511627774) (h:Q (lim (Nat.gcd (val a) (val b)))):jB a b Q:=by
 refine cb ha (by unfold SM;omega) (cb hb (by unfold SM;omega) ?_)
 have b1:=dj ha
 have b2:=dj hb
 refine ⟨λy=>∃m n:Nat,y=(lim m,lim n)/\(lim m).length<=1099511627774/\(lim n).length<=1099511627774/\Nat.gcd m n=Nat.gcd (val a) (val b),λy=>val y.2,⟨_,_,rfl,by omega,by omega,rfl⟩,?_⟩
 rintro _ ⟨m,n,rfl,hm,hn,hg⟩
 refine condT (λhc=>?_) (λhc=>?_)
 ·have hn0:n≠0:=by rintro rfl;rw [c9] at hc;simp at hc
  refine mj (aI m) (aI n) hm hn (λh0=>absurd (by rw [aW] at h0;exact h0) hn0) (λ_=>?_)
  rw [aW,aW]
  have hlt:=Nat.mod_lt m (Nat.pos_of_ne_zero hn0)
  refine ⟨⟨n,m % n,rfl,hn,Nat.le_trans (cF (Nat.le_of_lt hlt)) hn,?_⟩,?_⟩
  ·rw [<-hg,Nat.gcd_comm n,<-Nat.gcd_rec,Nat.gcd_comm]
  ·show val (lim (m % n))<val (lim n)
   rw [aW,aW];exact hlt
 ·have hn0:n=0:=by
   rcases Nat.eq_zero_or_pos n with h0 | h0
   ·exact h0
   ·rw [fA h0] at hc;simp at hc
  subst hn0
  rw [Nat.gcd_zero_right] at hg
  rw [<-hg] at h
  exact h
end Go.Gg
namespace Go.Gg
theorem qh {l:List Int} {n:Nat} {x:Int} (h:l.length=n):pv (l++[x]) (n+1)=pv l n+x*4294967296^n:=by
 rw [pv,AX om,pj om]
 have:n-l.length=0:=om
 rw [this];rfl
theorem Words.one {x:Int} (h0:0<=x) (h1:x<4294967296):Words [x]:=Words.nil.cons h0 h1
theorem uE {l:List Int} {x:Int} (h:l.length<=1099511627776):(l++[x]).length*4<=140737488355328:=by simp;omega
theorem cw {a:List Int} {i:Nat} {Q:Int->Prop} (hw:Words a) (h:Q (a.getD i 0)):ca a (i:Int) Q:=by
 refine condT (λhc=>⟨⟨by omega,hc⟩,?_⟩) (λhc=>?_)
 ·rw [fR]
  have:=hw i
  rw [wrap_u64_id om om]
  exact h
 ·rw [oN om] at h
  exact h
theorem dp {a:List Int} {Q:List Int->Prop} (hw:Words a) (hl:SM a) (h:Q (lim (val a))):cQ a Q:=by
 refine ⟨λn=>∃j:Nat,n=j/\j<=a.length/\(∀i,j<=i->i<a.length->a.getD i 0=0)/\(0<j->a.getD (j-1) 0≠0),?_,?_⟩
 ·refine ⟨λn=>∃j:Nat,n=j/\j<=a.length/\(∀i,j<=i->i<a.length->a.getD i 0=0),λn=>n.toNat,⟨a.length,rfl,Nat.le_refl _,λi h1 h2=>om⟩,?_⟩
  rintro n ⟨j,rfl,hj,hz⟩
  refine condT (λhc=>⟨by unfold rng;omega,⟨by omega,by omega⟩,bO (λhe=>⟨by unfold rng;omega,⟨j-1,by omega,by omega,λi h1 h2=>?_⟩,by dsimp only;omega⟩) (λhe=>⟨j,rfl,hj,hz,λ_=>?_⟩)⟩) (λhc=>⟨j,rfl,hj,hz,λh0=>om⟩)
  ·by_cases hi:i=j-1
   ·subst hi
    rw [rQ] at he
    have:((j:Int)-1).toNat=j-1:=om
    rwa [this] at he
   ·exact hz i om h2
  ·rw [rQ] at he
   have:((j:Int)-1).toNat=j-1:=om
   rwa [this] at he
 ·rintro n ⟨j,rfl,hj,hz,hlast⟩
  have e:=qC hw hj hz hlast
  refine ⟨⟨by omega,by omega,by omega⟩,?_,?_⟩
  ·simp [cB]
   have:min j a.length<=a.length:=om
   omega
  ·rw [<-e] at h
   simpa [cB] using h
theorem nY {a b:List Int} {Q:Int->Prop} (ha:Words a) (hb:Words b) (la:SM a) (lb:SM b) (h:Q (np (val a) (val b))):iy a b Q:=by
 unfold SM at la lb
 obtain ⟨N,hN⟩:∃N,N=max a.length b.length:=⟨_,rfl⟩
 have hNi:max (a.length:Int) (b.length:Int)=(N:Int):=om
 have v1:=dW ha (i:=N) om
 have v2:=dW hb (i:=N) om
 unfold iy
 rw [hNi]
 refine ⟨by unfold rng;omega,hY ⟨λi=>∃j:Nat,i=(j:Int)-1/\j<=N/\(∀k,j<=k->k<N->a.getD k 0=b.getD k 0),λi=>(i+1).toNat,⟨N,rfl,Nat.le_refl _,λk h1 h2=>om⟩,?_⟩⟩
 rintro _ ⟨j,rfl,hj,he⟩
 refine condT (λhc=>?_) (λhc=>?_)
 ·obtain ⟨i,rfl⟩:∃i,j=i+1:=⟨j-1,by omega⟩
  have ei:((i+1:Nat):Int)-1=(i:Int):=om
  rw [ei]
  refine cw ha (cw hb (condT (λh1=>?_) (λh1=>cw ha (cw hb (condT (λh2=>?_) (λh2=>⟨by unfold rng;omega,⟨i,rfl,by omega,λk h3 h4=>?_⟩,by dsimp only;omega⟩))))))
  ·have:=zX ha hb (i:=i) (n:=N) om h1 (λk h1 h2=>he k om h2)
   rw [np,if_pos om] at h;exact h
  ·have:=zX hb ha (i:=i) (n:=N) om h2 (λk h1 h2=>(he k om h2).symm)
   rw [np,if_neg om,if_neg om] at h;exact h
  ·by_cases hk:k=i
   ·subst hk;omega
   ·exact he k om h4
 ·have:=jL (l:=a) (m:=b) N (λk hk=>he k om hk)
  rw [np,if_neg om,if_pos om] at h;exact h
theorem xM {a b:List Int} {Q:List Int->Prop} (ha:Words a) (hb:Words b) (lb:a.length<=1099511627775/\b.length<=1099511627775) (h:Q (lim (val a+val b))):lN a b Q:=by
 obtain ⟨n,hn0⟩:∃n,n=max a.length b.length+1:=⟨_,rfl⟩
 have hn:max (a.length:Int) (b.length:Int)+1=(n:Int):=om
 unfold lN
 rw [hn]
 refine ⟨by unfold rng;omega,?_⟩
 refine ⟨λy=>∃i:Nat,y.2.1=i/\i<=n/\y.2.2.length=i/\Words y.2.2/\0<=y.1/\y.1<=1/\pv y.2.2 i+y.1*4294967296^i=pv a i+pv b i,λy=>n-y.2.1.toNat,⟨0,rfl,by omega,rfl,Words.nil,by show (0:Int)<=0;omega,by show (0:Int)<=1;omega,by simp [pv]⟩,?_⟩
 rintro ⟨c,x,out⟩ ⟨i,hx,hi,hlen,hw,hc0,hc1,hpv⟩
 simp only at hx hi hlen hw hc0 hc1 hpv
 subst hx
 have hxl:=ha i
 have hxm:=hb i
 refine condT (λhlt=>?_) (λhge=>?_)
 ·refine cw ha (cw hb (hY ⟨uE om,by unfold rng;omega,?_,by dsimp only;omega⟩))
  rw [wrap_u64_id (m:=a.getD i 0+b.getD i 0) om om,wrap_u64_id om om,wrap_u32]
  have e32:∀z:Int,z / 2^Int.toNat 32=z / 4294967296:=λ_=>rfl
  rw [e32]
  generalize hd:a.getD i 0+b.getD i 0+c=d
  refine ⟨i+1,rfl,by omega,by simp [hlen],hw.append (Words.one om om),by show 0<=d / 4294967296;omega,by show d / 4294967296<=1;omega,?_⟩
  show pv (out++[d % 4294967296]) (i+1)+d / 4294967296*_=_
  rw [qh hlen,Int.pow_succ,pv,pv,Int.add_assoc,lF,<-hd,Int.add_mul,Int.add_mul]
  omega
 ·obtain rfl:i=n:=om
  refine dp hw (by unfold SM;omega) ?_
  have e:val out=val a+val b:=by
   have a1:=dW hw (i:=i) om
   have a2:=dW ha (i:=i) om
   have a3:=dW hb (i:=i) om
   have b2:=nB (l:=a) (i-1) om
   have b3:=nB (l:=b) (i-1) om
   have b4:=nB (l:=a) i om
   have b5:=nB (l:=b) i om
   have c2:=(bp ha (i-1)).2
   have c3:=(bp hb (i-1)).2
   have c4:=(bp hw i).1
   have hi1:i=i-1+1:=om
   have hc:=hpv
   rw [hi1,Int.pow_succ,<-hi1] at hc
   have:=uw hc om om om hc0 hc1 (eM _)
   subst this
   omega
  rw [e]
  exact h
theorem lK {a b:List Int} {Q:List Int->Int->Prop} (ha:Words a) (hb:Words b) (la:SM a) (lb:SM b) (h1:val a<val b->Q [] 3) (h2:val b<=val a->Q (lim (val a-val b)) 0):jJ a b Q:=by
 refine nY ha hb la lb (condT (λhc=>h1 (kA.1 hc)) (λhc=>?_))
 have hge:val b<=val a:=by have:=mt kA.2 hc;omega
 have h:=h2 hge
 clear h1 h2
 unfold SM at la lb
 refine ⟨λy=>∃i:Nat,y.2.1=i/\i<=a.length/\y.2.2.length=i/\Words y.2.2/\0<=y.1/\y.1<=1/\pv y.2.2 i=pv a i-pv b i+y.1*4294967296^i,λy=>a.length-y.2.1.toNat,⟨0,rfl,by omega,rfl,Words.nil,by show (0:Int)<=0;omega,by show (0:Int)<=1;omega,by simp [pv]⟩,?_⟩
 rintro ⟨c,x,out⟩ ⟨i,hx,hi,hlen,hw,hb0,hb1,hpv⟩
 simp only at hx hi hlen hw hb0 hb1 hpv
 subst hx
 have hxl:=ha i
 have hxm:=hb i
 obtain ⟨q1,q2,q3⟩:=tA (a.getD i 0) (b.getD i 0) c hxl hxm ⟨hb0,hb1⟩
 refine condT (λhlt=>cw ha (cw hb (hY ⟨uE om,by unfold rng;omega,?_,by dsimp only;omega⟩))) (λhge=>?_)
 ·simp only [wrap_u32]
  generalize IntKind.u64.wrap (IntKind.u64.wrap (a.getD i 0-b.getD i 0)-c)=d at *
  have e63:d / 2^Int.toNat 63=d / 9223372036854775808:=rfl
  refine ⟨i+1,rfl,by omega,by simp [hlen],hw.append (Words.one om om),by simpa only [e63] using q2,by simpa only [e63] using q3,?_⟩
  simp only [e63]
  rw [qh hlen,Int.pow_succ,pv,pv,hpv]
  have e:d % 4294967296=a.getD i 0-b.getD i 0-c+4294967296*(d / 9223372036854775808):=om
  rw [e]
  generalize d / 9223372036854775808=d'
  have a1:=Int.add_mul (a.getD i 0-b.getD i 0-c) (4294967296*d') (4294967296^i)
  have a2:=Int.sub_mul (a.getD i 0-b.getD i 0) c (4294967296^i)
  have a3:=Int.sub_mul (a.getD i 0) (b.getD i 0) (4294967296^i)
  have a4:4294967296*d'*4294967296^i=d'*(4294967296^i*4294967296):=by rw [Int.mul_comm 4294967296 d',Int.mul_assoc,Int.mul_comm 4294967296]
  omega
 ·obtain rfl:i=a.length:=om
  refine dp hw (by unfold SM;omega) ?_
  have e:val out=val a-val b:=by
   have a1:=dW hw (i:=a.length) om
   have a2:=cm ha
   have a3:=bp ha a.length
   have a4:=bp hw a.length
   have a5:=bp hb a.length
   have a6:=cm hb
   rcases Nat.lt_or_ge a.length b.length with h | h
   ·have hm1:=oI hb (Nat.le_of_lt h)
    rcases (by omega:c=0\/c=1) with rfl | rfl
    ·have hz:pv b b.length=pv b a.length:=by
      refine qi hb (Nat.le_of_lt h) ?_
      omega
     omega
    ·omega
   ·have hm1:=dW hb h
    rcases (by omega:c=0\/c=1) with rfl | rfl<;>omega
  rw [e]
  exact h
theorem CC {X C A1 B1 P1 P2:Int} (f1:0<=X) (f2:1*(P1*P2)<=C*(P1*P2)) (h:X+C*(P1*P2)=A1*B1) (a0:0<=A1) (a1:A1<P1) (_b0:0<=B1) (b1:B1<P2) (_p1:0<P1) (p2:0<P2):False:=by
 have h1:A1*B1<=A1*P2:=Int.mul_le_mul_of_nonneg_left om a0
 have h2:A1*P2<P1*P2:=Int.mul_lt_mul_of_pos_right a1 p2
 omega
set_option maxHeartbeats 1000000 in
theorem lL {a b:List Int} {Q:List Int->Prop} (ha:Words a) (hb:Words b) (la:a.length+b.length<=1099511627775) (h:Q (lim (val a*val b))):gi a b Q:=by
 obtain ⟨N,hN⟩:∃N,N=a.length+b.length+1:=⟨_,rfl⟩
 have hNi:(a.length:Int)+(b.length:Int)+1=(N:Int):=om
 have hL:(b.length:Int)+1=((b.length+1:Nat):Int):=om
 unfold gi
 rw [hNi,hL]
 refine ⟨by unfold rng;omega,by unfold rng;omega,qy om om,?_⟩
 refine ⟨λy=>∃i:Nat,y.1=i/\i<=a.length/\y.2.length=N/\Words y.2/\pv y.2 (i+b.length)=pv a i*pv b b.length/\(∀p,i+b.length<=p->y.2.getD p 0=0),λy=>a.length-y.1.toNat,
  ⟨0,rfl,by omega,by simp [bu],Words.rep _,by rw [s7,pD];simp [pv],λp hp=>by rw [s7,List.getD_eq_getElem?_getD,List.getElem?_replicate];split<;>rfl⟩,?_⟩
 rintro ⟨x,out⟩ ⟨i,hx,hi,hlen,hw,hpv,hz⟩
 simp only at hx hi hlen hw hz hpv
 subst hx
 have hxi:=ha i
 refine condT (λhlt=>⟨⟨by omega,hlt⟩,by unfold rng;omega,?_⟩) (λhge=>?_)
 ·have hbl:pv b (b.length+1)=pv b b.length:=nB _ om
  refine ⟨λy=>∃k:Nat,y.2.1=k/\k<=b.length+1/\y.2.2.length=N/\Words y.2.2/\(∀p,i+(b.length+1)<=p->y.2.2.getD p 0=0)/\0<=y.1/\y.1<4294967296/\(k=b.length+1->y.1=0)/\
    pv y.2.2 N+y.1*4294967296^(i+k)=pv a i*pv b b.length+a.getD i 0*4294967296^i*pv b k,λy=>b.length+1-y.2.1.toNat,
   ⟨0,rfl,by omega,hlen,hw,λp hp=>hz p om,by show (0:Int)<=0;omega,by show (0:Int)<_;omega,by omega,?_⟩,?_⟩
  ·show pv out N+0*_=_
   rw [m_ (j:=i+b.length) N om (λk h1 h2=>hz k h1),hpv];simp [pv]
  clear hpv hz hw hlen h
  rintro ⟨c,x1,out2⟩ ⟨k,hx,hk,hlen,hw,hz,hc0,hc1,hck,hpv⟩
  simp only at hx hk hlen hw hz hc0 hc1 hck hpv
  subst hx
  have hy:=hb k
  have ho:=hw (i+k)
  obtain ⟨q1,q2⟩:=yg hxi hy
  have eik:(i:Int)+(k:Int)=((i+k:Nat):Int):=om
  refine condT (λhlt2=>⟨b.getD k 0,cw hb rfl,by unfold rng;omega,⟨by omega,by omega⟩,by unfold rng;omega,⟨by omega,by omega⟩,hY ⟨by unfold rng;omega,?_,by dsimp only;omega⟩⟩) (λhge2=>⟨by unfold rng;omega,?_,by dsimp only;omega⟩)
  ·simp only [eik,fR,ft]
   simp (disch:=omega) only [wrap_u64_id,wrap_u32]
   have e32:∀z:Int,z / 2^Int.toNat 32=z / 4294967296:=λ_=>rfl
   simp only [e32]
   generalize hv:a.getD i 0*b.getD k 0+out2.getD (i+k) 0+c=v
   have hnew:pv (out2.set (i+k) (v % 4294967296)) N+v / 4294967296*4294967296^(i+(k+1))=pv a i*pv b b.length+a.getD i 0*4294967296^i*pv b (k+1):=by
    rw [gk om N om,pv,<-Nat.add_assoc,Int.pow_succ,Int.mul_add,<-Int.add_assoc,<-hpv]
    have s1:=lF v (4294967296^(i+k))
    have s2:=Int.sub_mul (v % 4294967296) (out2.getD (i+k) 0) (4294967296^(i+k))
    have s3:v*4294967296^(i+k)=a.getD i 0*4294967296^i*(b.getD k 0*4294967296^k)+out2.getD (i+k) 0*4294967296^(i+k)+c*4294967296^(i+k):=by
     rw [<-hv,Int.add_mul,Int.add_mul,Int.pow_add]
     congr 2
     rw [Int.mul_assoc,Int.mul_assoc,Int.mul_left_comm (b.getD k 0)]
    omega
   refine ⟨k+1,rfl,by omega,by simp [hlen],hw.set _ om om,λp hp=>?_,by show 0<=v / 4294967296;omega,by show v / 4294967296<4294967296;omega,λhkb=>?_,hnew⟩
   ·show (out2.set (i+k) _).getD p 0=0
    rw [ct om];exact hz p hp
   ·show v / 4294967296=0
    have:k=b.length:=om
    have hy0:b.getD k 0=0:=oN om
    have ho0:out2.getD (i+k) 0=0\/True:=.inr trivial
    rw [hy0,Int.mul_zero] at hv
    rcases Int.lt_or_le v 4294967296 with h1 | h1
    ·omega
    ·exfalso
     have f1:=(bp (hw.set (i+k) (x:=v % 4294967296) om om) N).1
     have f2:1*(4294967296:Int)^(i+(k+1))<=v / 4294967296*4294967296^(i+(k+1)):=Int.mul_le_mul_of_nonneg_right om (by have:=eM (i+(k+1));omega)
     have f3:=(bp ha (i+1)).2
     have f4:=bp hb b.length
     have f5:pv a i*pv b b.length+a.getD i 0*4294967296^i*pv b (k+1)=pv a (i+1)*pv b b.length:=by
      have:pv b (k+1)=pv b b.length:=nB _ om
      rw [this,pv,Int.add_mul]
     have f7:(4294967296:Int)^(i+(k+1))=4294967296^(i+1)*4294967296^b.length:=by rw [<-Int.pow_add];congr 1;omega
     have f9:=eM (i+1)
     have f10:=eM b.length
     rw [f5,f7] at hnew
     rw [f7] at f2
     have f0:=(bp ha (i+1)).1
     generalize (4294967296:Int)^(i+1)=P1 at *
     generalize (4294967296:Int)^b.length=P2 at *
     generalize pv a (i+1)=A1 at *
     generalize pv b b.length=B1 at *
     exact CC f1 f2 hnew f0 f3 f4.1 f4.2 f9 f10
  ·obtain rfl:k=b.length+1:=om
   have:=hck rfl
   subst this
   refine ⟨i+1,rfl,by omega,hlen,hw,?_,λp hp=>hz p om⟩
   show pv out2 (i+1+b.length)=pv a (i+1)*pv b b.length
   rw [<-m_ (j:=i+1+b.length) N om (λk h1 h2=>hz k om),pv,Int.add_mul]
   rw [hbl] at hpv
   omega
 ·obtain rfl:i=a.length:=om
  refine dp hw (by unfold SM;omega) ?_
  have e:val out=val a*val b:=by
   have a1:=dW hw (i:=N) om
   rw [m_ (j:=a.length+b.length) N om (λk h1 h2=>hz k h1),hpv] at a1
   have a2:=cm ha
   have a3:=cm hb
   have:((val a*val b:Nat):Int)=(val a:Int)*(val b:Int):=by simp
   have:(val out:Int)=((val a*val b:Nat):Int):=by rw [this,a1,a2,a3]
   omega
  rw [e]
  exact h
end Go.Gg
namespace Go.Gg
theorem tN {a:List Int} {n:Nat} {Q:List Int->Prop} (ha:Words a) (la:a.length<=1099511627775) (hn:n<=32) (h:Q (lim (val a*2^n))):m8 a (n:Int) Q:=by
 have hpp:=e8 n
 have hs:=oC hn
 have hqp:=e8 (32-n)
 have hple:(2:Int)^n<=4294967296:=by
  have:(2:Int)^n*1<=2^n*2^(32-n):=Int.mul_le_mul_of_nonneg_left om om
  omega
 refine ⟨λy=>∃i:Nat,y.2.1=i/\i<=a.length/\y.2.2.length=i/\Words y.2.2/\0<=y.1/\y.1<2^n/\pv y.2.2 i+y.1*4294967296^i=pv a i*2^n,λy=>a.length-y.2.1.toNat,⟨0,rfl,by omega,rfl,Words.nil,by show (0:Int)<=0;omega,hpp,by simp [pv]⟩,?_⟩
 rintro ⟨c,x,out⟩ ⟨i,hx,hi,hlen,hw,hc0,hc1,hpv⟩
 simp only at hx hi hlen hw hc0 hc1 hpv
 subst hx
 have hxi:=ha i
 refine condT (λhlt=>⟨⟨by omega,hlt⟩,⟨by omega,by omega⟩,?_⟩) (λhge=>?_)
 ·rw [fR,Int.toNat_natCast]
  have hy0:0<=a.getD i 0*2^n:=Int.mul_nonneg hxi.1 om
  have hy1:a.getD i 0*2^n<=4294967295*2^n:=Int.mul_le_mul_of_nonneg_right om om
  have hmod:a.getD i 0*2^n % 2^n=0:=Int.mul_emod_left _ _
  have hor:bits .or .u64 c (a.getD i 0*2^n)=a.getD i 0*2^n+c:=wx n hc0 hc1 hy0 hmod om
  rw [wrap_u64_id hxi.1 om,wrap_u64_id hy0 om,hor]
  refine hY ⟨uE om,by unfold rng;omega,?_,by dsimp only;omega⟩
  have e32:∀z:Int,z / 2^Int.toNat 32=z / 4294967296:=λ_=>rfl
  rw [e32,wrap_u32]
  generalize hd:a.getD i 0*2^n+c=d
  refine ⟨i+1,rfl,by omega,by simp [hlen],hw.append (Words.one om om),by show 0<=d / 4294967296;omega,?_,?_⟩
  ·show d / 4294967296<2^n
   rw [Int.ediv_lt_iff_lt_mul om];omega
  ·show pv (out++[d % 4294967296]) (i+1)+d / 4294967296*_=_
   rw [qh hlen,Int.pow_succ,Int.add_assoc,lF,<-hd,pv,Int.add_mul,Int.add_mul,<-hpv,Int.mul_right_comm]
   omega
 ·obtain rfl:i=a.length:=om
  rw [wrap_u32]
  have hcm:c % 4294967296=c:=om
  rw [hcm]
  refine ⟨uE om,dp (hw.append (Words.one hc0 om)) (by simp [SM];omega) ?_⟩
  have e:val (out++[c])=val a*2^n:=by
   have a1:=dW (hw.append (Words.one hc0 (by omega:c<4294967296))) (i:=a.length+1) (by simp;omega)
   rw [qh hlen,hpv,<-cm ha] at a1
   have:((val a*2^n:Nat):Int)=(val a:Int)*2^n:=by simp
   omega
  rw [e];exact h
theorem wv {a:List Int} {n:Nat} {Q:List Int->Prop} (ha:Words a) (la:SM a) (hn:n<=32) (h:Q (lim (val a / 2^n))):kr a (n:Int) Q:=by
 unfold SM at la
 have hs:=oC hn
 have hpp:=e8 n
 have hqp:=e8 (32-n)
 unfold kr
 generalize hp:(2:Int)^n=p at *
 generalize (2:Int)^(32-n)=q at *
 refine ⟨λy=>∃i:Nat,y.1=i/\i<=a.length/\y.2.length=i/\Words y.2/\pv y.2 i*p=pv a i-a.getD 0 0 % p+(a.getD i 0 % p)*4294967296^i,λy=>a.length-y.1.toNat,
  ⟨0,rfl,by omega,rfl,Words.nil,by simp [pv];omega⟩,?_⟩
 rintro ⟨x,out⟩ ⟨i,hx,hi,hlen,hw,hpv⟩
 simp only at hx hi hlen hw hpv
 subst hx
 have h0:=ha i
 have h1:=ha (i+1)
 have e1:(i:Int)+1=((i+1:Nat):Int):=om
 refine condT (λhlt=>cw ha ⟨by unfold rng;omega,?_⟩) (λhge=>?_)
 ·rw [e1]
  refine cw ha ⟨⟨by omega,by omega⟩,uE om,by unfold rng;omega,?_,by dsimp only;omega⟩
  have e32:(2:Int)^Int.toNat 32=4294967296:=rfl
  rw [e32,Int.toNat_natCast,hp,wrap_u64_id om om,wx 32 h0.1 h0.2 om (by show _ % 4294967296=0;omega) om,wrap_u32]
  generalize ha0:a.getD i 0=x0 at *
  generalize ha1:a.getD (i+1) 0=x1 at *
  have hx0:0<=x0 / p:=Int.ediv_nonneg h0.1 om
  have hx0':x0 / p<q:=by rw [Int.ediv_lt_iff_lt_mul hpp,Int.mul_comm,hs];exact h0.2
  have hm0:0<=x1 % p:=Int.emod_nonneg _ om
  have hm1:x1 % p<p:=Int.emod_lt_of_pos _ hpp
  have hdv:(x1*4294967296+x0) / p=x1*q+x0 / p:=by
   rw [<-hs,Int.mul_left_comm,Int.add_comm,Int.add_mul_ediv_left _ _ om,Int.add_comm]
  have hk:(x1*4294967296+x0) / p % 4294967296=(x1 % p)*q+x0 / p:=by
   have d1:x1=p*(x1 / p)+x1 % p:=(Int.mul_ediv_add_emod x1 p).symm
   have d2:x1*q+x0 / p=(x1 % p)*q+x0 / p+4294967296*(x1 / p):=by
    have:x1*q=(p*(x1 / p)+x1 % p)*q:=by rw [<-d1]
    rw [this,Int.add_mul,Int.mul_right_comm,hs];omega
   rw [hdv,d2,Int.add_mul_emod_self_left]
   refine Int.emod_eq_of_lt ?_ ?_
   ·have:=Int.mul_nonneg hm0 (Int.le_of_lt hqp);omega
   ·have:(x1 % p)*q<=(p-1)*q:=Int.mul_le_mul_of_nonneg_right om om
    rw [Int.sub_mul,hs] at this;omega
  rw [hk]
  have hq0:=Int.mul_nonneg hm0 (Int.le_of_lt hqp)
  have hq1:(x1 % p)*q<=(p-1)*q:=Int.mul_le_mul_of_nonneg_right om om
  rw [Int.sub_mul,hs] at hq1
  refine ⟨i+1,rfl,by omega,by simp [hlen],hw.append (Words.one om om),?_⟩
  show pv (out++[x1 % p*q+x0 / p]) (i+1)*p=pv a (i+1)-_+_
  rw [qh hlen,pv,Int.add_mul,hpv,ha0,ha1,Int.pow_succ]
  have d0:x0=p*(x0 / p)+x0 % p:=(Int.mul_ediv_add_emod x0 p).symm
  have s1:(x1 % p*q+x0 / p)*4294967296^i*p=x1 % p*(4294967296^i*4294967296)+(p*(x0 / p))*4294967296^i:=by
   rw [Int.add_mul,Int.add_mul]
   congr 1
   ·rw [<-hs,Int.mul_assoc,Int.mul_assoc,Int.mul_left_comm q,Int.mul_comm q p]
   ·rw [Int.mul_right_comm,Int.mul_comm (x0 / p)]
  have s2:x0*4294967296^i=(p*(x0 / p))*4294967296^i+x0 % p*4294967296^i:=by
   rw [<-Int.add_mul,<-d0]
  omega
 ·obtain rfl:i=a.length:=om
  refine dp hw (by unfold SM;omega) ?_
  have a1:=cm hw
  have a2:=cm ha
  rw [hlen] at a1
  rw [oN (Nat.le_refl a.length),Int.zero_emod,Int.zero_mul,<-a2,<-a1] at hpv
  have hr0:0<=a.getD 0 0 % p:=Int.emod_nonneg _ om
  have hr1:a.getD 0 0 % p<p:=Int.emod_lt_of_pos _ hpp
  have e:(val a:Int) / p=val out:=by
   have:(val a:Int)=p*val out+a.getD 0 0 % p:=by rw [Int.mul_comm];omega
   rw [this,Int.add_comm,Int.add_mul_ediv_left _ _ om,Int.ediv_eq_zero_of_lt hr0 hr1];omega
  have e2:((val a / 2^n:Nat):Int)=(val a:Int) / p:=by rw [<-hp];simp
  have:val out=val a / 2^n:=om
  rw [this];exact h
theorem Ex {y:Int} (h0:0<=y) (h1:y<4294967296):bits .and .u32 y 1=y % 2:=by
 obtain ⟨m,rfl⟩:=Int.eq_ofNat_of_zero_le h0
 show IntKind.u32.wrap (((BitVec.ofInt 32 (m:Int)) &&& (BitVec.ofInt 32 1)).toNat:Int)=_
 rw [wrap_u32,BitVec.toNat_and,BitVec.toNat_ofInt,BitVec.toNat_ofInt]
 have e1:((m:Int) % ((2^32:Nat):Int)).toNat=m:=om
 have e2:((1:Int) % ((2^32:Nat):Int)).toNat=1:=om
 rw [e1,e2,Nat.and_one_is_mod]
 omega
theorem w8 (m i:Nat):m &&& 2^i=if m.testBit i then 2^i else 0:=by
 refine Nat.eq_of_testBit_eq (λj=>?_)
 rw [Nat.testBit_and,Nat.testBit_two_pow]
 by_cases h:i=j
 ·subst h
  cases hb:m.testBit i<;>simp
 ·split<;>simp [h]
theorem Ew {y:Int} (h0:0<=y) (h1:y<4294967296):bits .and .u32 y 2147483648=if y<2147483648 then 0 else 2147483648:=by
 obtain ⟨m,rfl⟩:=Int.eq_ofNat_of_zero_le h0
 show IntKind.u32.wrap (((BitVec.ofInt 32 (m:Int)) &&& (BitVec.ofInt 32 2147483648)).toNat:Int)=_
 rw [wrap_u32,BitVec.toNat_and,BitVec.toNat_ofInt,BitVec.toNat_ofInt]
 have e1:((m:Int) % ((2^32:Nat):Int)).toNat=m:=om
 have e2:((2147483648:Int) % ((2^32:Nat):Int)).toNat=2^31:=by decide
 rw [e1,e2,w8]
 have:m.testBit 31=decide (2147483648<=m):=by
  rw [Nat.testBit_eq_decide_div_mod_eq]
  have e:m / 2^31=m / 2147483648:=rfl
  rw [e]
  by_cases hm:2147483648<=m
  ·have:m / 2147483648=1:=om
   rw [this];simp [hm]
  ·have:m / 2147483648=0:=om
   rw [this];simp [hm]
 rw [this]
 by_cases hm:2147483648<=m
 ·have h2:¬((m:Int)<2147483648):=om
  simp only [hm,decide_true,if_true]
  show _=if (m:Int)<2147483648 then _ else _
  rw [if_neg h2];rfl
 ·have h2:(m:Int)<2147483648:=om
  simp only [hm,decide_false,Bool.false_eq_true,if_false]
  show _=if (m:Int)<2147483648 then _ else _
  rw [if_pos h2];rfl
theorem C8 {x p:Nat} (h:x<2^p):bX (x+2^p)=p+1:=by
 refine rP ?_ (λ_=>?_)
 ·rw [Nat.pow_succ];omega
 ·rw [Nat.add_sub_cancel];omega
theorem m9 {a:List Int} {Q:Int->Prop} (ha:Words a) (la:SM a) (h:Q (bX (val a))):iQ a Q:=by
 unfold SM at la
 refine ⟨λy=>∃i:Nat,y.2=i/\i<=a.length/\y.1=((bX (pv a i).toNat:Nat):Int),λy=>a.length-y.2.toNat,⟨0,rfl,by omega,rfl⟩,?_⟩
 rintro ⟨n,x⟩ ⟨i,hx,hi,hn⟩
 simp only at hx hi hn
 subst hx hn
 have hxi:=ha i
 obtain ⟨w,hw⟩:∃w:Nat,a.getD i 0=w:=⟨(a.getD i 0).toNat,by omega⟩
 obtain ⟨b1,b2⟩:=bp ha i
 obtain ⟨A,hA⟩:∃A:Nat,pv a i=A:=⟨(pv a i).toNat,by omega⟩
 have hW:(4294967296:Int)^i=((2^(32*i):Nat):Int):=by rw [Nat.pow_mul];simp
 refine condT (λhlt=>⟨⟨by omega,hlt⟩,?_⟩) (λhge=>?_)
 ·refine ⟨λy=>∃k:Nat,y.2=k/\k<=32/\y.1=((bX (A+w % 2^k*2^(32*i)):Nat):Int),λy=>32-y.2.toNat,⟨0,rfl,by omega,?_⟩,?_⟩
  ·show ((bX (pv a i).toNat:Nat):Int)=_
   rw [hA];simp [Nat.mod_one]
  rintro ⟨n,x⟩ ⟨k,hx,hk,hn⟩
  simp only at hx hk hn
  subst hx hn
  refine condT (λhk2=>⟨⟨by omega,by omega⟩,?_⟩) (λhk2=>⟨by unfold rng;omega,⟨i+1,rfl,by omega,?_⟩,by dsimp only;omega⟩)
  ·have hpk:0<2^k:=Nat.pow_pos om
   have ed:a.getD i 0 / 2^k=((w / 2^k:Nat):Int):=by rw [hw];simp
   have hdle:w / 2^k<=w:=Nat.div_le_self _ _
   have hsucc:w % 2^(k+1)=w % 2^k+2^k*(w / 2^k % 2):=Nat.mod_pow_succ
   generalize w / 2^k=z at *
   rw [fR,Int.toNat_natCast,ed,Ex om om]
   refine bO (λhe=>⟨by unfold rng;omega,by unfold rng;omega,by unfold rng;omega,by unfold rng;omega,⟨k+1,rfl,by omega,?_⟩,by dsimp only;omega⟩) (λhe=>⟨by unfold rng;omega,⟨k+1,rfl,by omega,?_⟩,by dsimp only;omega⟩)
   ·have h2:z % 2=1:=om
    show 32*(i:Int)+k+1=_
    rw [hsucc,h2,Nat.mul_one]
    have e:A+(w % 2^k+2^k)*2^(32*i)=(A+w % 2^k*2^(32*i))+2^(32*i+k):=by
     rw [Nat.add_mul,Nat.pow_add,Nat.mul_comm (2^(32*i)) (2^k)];omega
    have hlt2:A+w % 2^k*2^(32*i)<2^(32*i+k):=by
     have h3:w % 2^k<2^k:=Nat.mod_lt _ hpk
     have h4:(w % 2^k+1)*2^(32*i)<=2^k*2^(32*i):=Nat.mul_le_mul_right _ h3
     rw [Nat.pow_add,Nat.mul_comm (2^(32*i)) (2^k)]
     rw [Nat.add_mul] at h4
     omega
    rw [e,C8 hlt2];omega
   ·have h2:z % 2=0:=om
    show ((bX (A+w % 2^k*2^(32*i)):Nat):Int)=_
    rw [hsucc,h2,Nat.mul_zero,Nat.add_zero]
  ·obtain rfl:k=32:=om
   show ((bX (A+w % 2^32*2^(32*i)):Nat):Int)=((bX (pv a (i+1)).toNat:Nat):Int)
   have hm:w % 2^32=w:=Nat.mod_eq_of_lt om
   have:(pv a (i+1)).toNat=A+w*2^(32*i):=by
    have:pv a (i+1)=((A+w*2^(32*i):Nat):Int):=by rw [pv,hA,hw,hW,Int.natCast_add,Int.natCast_mul]
    omega
   rw [hm,this]
 ·obtain rfl:i=a.length:=om
  exact h
end Go.Gg
namespace Go.Gg
theorem DG {s:Nat} (h:s<=31):rng ((s:Int)+1):=by unfold rng;omega
theorem El {s:Nat} (h:s<=31):32-((s:Int)+1).toNat<32-(s:Int).toNat:=om
theorem wU {m n:Nat}:0<np m n↔n<m:=by
 unfold np
 by_cases h:m<n
 ·simp only [h,if_true];omega
 ·rw [if_neg h];split<;>omega
theorem vz {R k:Nat} (h:R<4294967296^k):(R:Int)=pv (lim R) k:=by
 have h1:=ip h
 have h2:=dW (aI R) h1
 rw [aW] at h2
 exact h2
theorem Af {g:Nat} (h:g<4294967296):val [(g:Int)]=g:=by
 rw [jH (Words.one om om),mR];omega
set_option maxHeartbeats 2000000 in
theorem nX {a b:List Int} {Q:List Int->List Int->Int->Prop} (ha:Words a) (hb:Words b) (la:a.length<=1099511627760) (lb:b.length<=1099511627760)
  (h0:val b=0->Q [] [] 8) (h:val b≠0->Q (lim (val a / val b)) (lim (val a % val b)) 0):jK a b Q:=by
 refine dp hb (by unfold SM;omega) ?_
 have b2:=dj hb
 have w2:=aI (val b)
 have v2:=aW (val b)
 refine bO (λhc=>?_) (λhc=>?_)
 ·have:(lim (val b)).length=0:=om
  have:lim (val b)=[]:=List.eq_nil_of_length_eq_zero this
  rw [this,mR] at v2
  exact h0 v2.symm
 have hB:val b≠0:=by intro hh;rw [hh,c9] at hc;exact hc rfl
 replace h:=h hB
 clear h0
 obtain ⟨m,hm⟩:∃m,(lim (val b)).length=m+1:=⟨(lim (val b)).length-1,by omega⟩
 have htop:=wD hB
 have hbd:=cm w2
 rw [v2] at hbd
 generalize hA:val a=A at *
 generalize hBv:val b=B at *
 generalize hlb:lim B=bl at *
 rw [hm] at htop hbd
 rw [Nat.add_sub_cancel] at htop
 have hwt:=w2 m
 have hml:(bl.length:Int)-1=(m:Int):=om
 obtain ⟨tp,htp⟩:∃x:Nat,bl.getD m 0=x:=⟨(bl.getD m 0).toNat,by omega⟩
 rw [htp] at htop hwt
 have htp0:tp≠0:=om
 have c1:=oR (n:=tp)
 have c2:=nt htp0
 have c3:=oS (x:=tp) om
 have c4:bX tp≠0:=by unfold bX;rw [if_neg htp0];omega
 have hPm:=eM m
 refine ⟨λy=>∃s:Nat,y=s/\s<=32-bX tp,λy=>32-y.toNat,⟨0,rfl,by omega⟩,?_⟩
 rintro _ ⟨s,rfl,hs⟩
 have hps:=e8 s
 have hsle:(2:Int)^(bX tp)*2^s<=4294967296:=by
  have e1:(2:Int)^(bX tp+s)*2^(32-(bX tp+s))=4294967296:=jl (c:=32) om
  rw [<-Int.pow_add]
  have:=e8 (32-(bX tp+s))
  have h3:=e8 (bX tp+s)
  have:(2:Int)^(bX tp+s)*1<=2^(bX tp+s)*2^(32-(bX tp+s)):=Int.mul_le_mul_of_nonneg_left om om
  omega
 have f1:(tp:Int)+1<=2^(bX tp):=by exact_mod_cast c1
 have g1:((tp:Int)+1)*2^s<=2^(bX tp)*2^s:=Int.mul_le_mul_of_nonneg_right f1 om
 have g1':((tp:Int)+1)*2^s=tp*2^s+2^s:=by rw [Int.add_mul];omega
 have ht0:0<=(tp:Int)*2^s:=Int.mul_nonneg om om
 have hw32:(tp:Int)*2^s % 4294967296=tp*2^s:=Int.emod_eq_of_lt ht0 om
 rw [hml,fR,htp,Int.toNat_natCast,wrap_u32,hw32,Ew ht0 om]
 have hs31:s<=31:=om
 have hr1:rng ((s:Int)+1):=DG hs31
 have hr2:32-((s:Int)+1).toNat<32-((s:Int)).toNat:=El hs31
 refine ⟨by unfold rng;omega,⟨by omega,by omega⟩,⟨by omega,by omega⟩,bO (λhe=>⟨hr1,⟨s+1,rfl,?_⟩,hr2⟩) (λhe=>?_)⟩
 ·
  have hlt:(tp:Int)*2^s<2147483648:=by
   rcases Int.lt_or_le ((tp:Int)*2^s) 2147483648 with hh | hh
   ·exact hh
   ·rw [if_neg om] at he;cases he
  rcases Nat.lt_or_ge s (32-bX tp) with hh | hh
  ·omega
  ·exfalso
   have hse:s=32-bX tp:=om
   have e2:(2:Int)^(bX tp-1)*2^s=2147483648:=jl (c:=31) om
   have f2:(2:Int)^(bX tp-1)<=tp:=by exact_mod_cast c2
   have g2:(2:Int)^(bX tp-1)*2^s<=tp*2^s:=Int.mul_le_mul_of_nonneg_right f2 om
   omega
 have hge31:2147483648<=(tp:Int)*2^s:=by
  rcases Int.lt_or_le ((tp:Int)*2^s) 2147483648 with hh | hh
  ·rw [if_pos hh] at he;exact absurd rfl he
  ·exact hh
 clear he
 refine tN ha om om (tN w2 om om ?_)
 rw [hA,v2]
 obtain ⟨A2,hA2⟩:∃A2,A2=A*2^s:=⟨_,rfl⟩
 obtain ⟨B2,hB2⟩:∃B2,B2=B*2^s:=⟨_,rfl⟩
 rw [<-hA2,<-hB2]
 have hB2i:(B2:Int)=(B:Int)*2^s:=by rw [hB2];simp
 have hbm:=bp w2 m
 have hbd2:(B:Int)=pv bl m+tp*4294967296^m:=by rw [hbd,pv,htp]
 have ew1:(4294967296:Int)^(m+1)=4294967296^m*4294967296:=Int.pow_succ ..
 have hB2lt:(B2:Int)<4294967296^(m+1):=by
  have k1:(B:Int)+1<=(tp+1)*4294967296^m:=by rw [Int.add_mul];omega
  have k2:((B:Int)+1)*2^s<=((tp+1)*4294967296^m)*2^s:=Int.mul_le_mul_of_nonneg_right k1 om
  have k4:(((tp:Int)+1)*2^s)*4294967296^m<=4294967296*4294967296^m:=Int.mul_le_mul_of_nonneg_right om om
  rw [Int.mul_right_comm] at k2
  rw [Int.add_mul] at k2
  rw [hB2i,ew1]
  omega
 have hB2ge:2147483648*4294967296^m<=(B2:Int):=by
  have k1:(tp:Int)*4294967296^m<=B:=om
  have k2:(tp:Int)*4294967296^m*2^s<=B*2^s:=Int.mul_le_mul_of_nonneg_right k1 om
  have k3:2147483648*4294967296^m<=(tp:Int)*2^s*4294967296^m:=Int.mul_le_mul_of_nonneg_right hge31 om
  rw [Int.mul_right_comm] at k2
  omega
 have hB20:0<B2:=om
 have hB2N:B2<4294967296^(m+1):=by
  have:((4294967296^(m+1):Nat):Int)=(4294967296:Int)^(m+1):=by simp
  omega
 have wA:=aI A2
 have vA:=aW A2
 have wB:=aI B2
 have hlB:(lim B2).length<=m+1:=ip hB2N
 have hLA:(lim A2).length<=1099511627762:=by
  have k1:A<4294967296^a.length:=by rw [<-hA];exact pn ha
  have k2:A*2^s<4294967296^(a.length+1):=by
   rw [Nat.pow_succ]
   have k3:2^s<=2^32:=Nat.pow_le_pow_right om om
   exact Nat.mul_lt_mul_of_lt_of_le k1 k3 om
  rw [hA2]
  have:=ip k2
  omega
 have hBtop:=vz hB2N
 generalize hlA2:lim A2=al at *
 generalize hlB2:lim B2=bl2 at *
 obtain ⟨L,hL⟩:∃L,al.length=L:=⟨_,rfl⟩
 have hApv:(A2:Int)=pv al L:=by rw [<-vA,<-hL];exact cm wA
 obtain ⟨r0,hr0⟩:∃r0,r0=[]++cB al (max 0 ((al.length:Int)-(bl.length:Int)+1)) (al.length:Int):=⟨_,rfl⟩
 obtain ⟨J,hJ⟩:∃J,J=L-m:=⟨_,rfl⟩
 have hr0d:r0=al.drop J:=by
  rw [hr0]
  show []++(al.drop _).take _=_
  have e:(max 0 ((al.length:Int)-(bl.length:Int)+1)).toNat=J:=om
  rw [e,List.nil_append,Int.toNat_natCast]
  exact List.take_of_length_le (by simp)
 rw [<-hr0]
 refine ⟨qy om om,by unfold rng;omega,by unfold rng;omega,⟨by omega,by omega,by omega⟩,?_,by unfold rng;omega,?_⟩
 ·rw [hr0d];simp;omega
 have hr0w:Words r0:=by rw [hr0d];exact wA.drop J
 have hr0l:r0.length=L-J:=by rw [hr0d,List.length_drop,hL]
 have hsplit:(A2:Int)=pv al J+val r0*4294967296^J:=by
  have k0:L=J+(L-J):=om
  rw [hApv,k0,mA,cm hr0w,hr0l,hr0d]
 have hr0B:val r0<B2:=by
  have k1:=pn hr0w
  have k2:4294967296^r0.length<=4294967296^m:=Nat.pow_le_pow_right om om
  have k3:((4294967296^m:Nat):Int)=(4294967296:Int)^m:=by simp
  omega
 refine ⟨λy=>∃j:Nat,(y.2.1=(j:Int)-1\/(j=0/\y.2.1<0))/\j<=L/\Words y.1/\y.1.length<=m+1/\val y.1<B2/\y.2.2.length=L/\Words y.2.2/\(∀k,k<j->y.2.2.getD k 0=0)/\(A2:Int)=pv y.2.2 L*B2+val y.1*4294967296^j+pv al j,
  λy=>(y.2.1+1).toNat,⟨J,?_,by omega,hr0w,by show r0.length<=_;omega,hr0B,by simp [bu,hL],Words.rep _,λk hk=>?_,?_⟩,?_⟩
 ·show (al.length:Int)-(bl.length:Int)=(J:Int)-1\/J=0/\(al.length:Int)-(bl.length:Int)<0
  rcases Nat.lt_or_ge L (m+1) with hh | hh
  ·right;omega
  ·left;omega
 ·show (List.replicate ((al.length:Int)).toNat (0:Int)).getD k 0=0
  rw [List.getD_eq_getElem?_getD,List.getElem?_replicate];split<;>rfl
 ·show (A2:Int)=pv (List.replicate ((al.length:Int)).toNat (0:Int)) L*B2+val r0*4294967296^J+pv al J
  rw [pD];omega
 clear hsplit hr0B hr0w hr0l hr0 hr0d
 clear r0
 rintro ⟨r,x,q⟩ ⟨j,hx,hj,hrw,hrl,hrB,hql,hqw,hqz,hsum⟩
 simp only at hx hj hrw hrl hrB hql hqw hqz hsum
 refine condT (λhc=>?_) (λhc=>?_)
 ·obtain ⟨i,rfl⟩:∃i,j=i+1:=⟨j-1,by omega⟩
  obtain rfl:x=(i:Int):=om
  have hai:=wA i
  rw [fR]
  have hw1:Words ([al.getD i 0]++r):=(Words.one hai.1 hai.2).append hrw
  refine ⟨⟨by omega,by omega⟩,by simp;omega,dp hw1 (by simp [SM];omega) ?_⟩
  obtain ⟨R,hRd⟩:∃R,R=val ([al.getD i 0]++r):=⟨_,rfl⟩
  rw [<-hRd]
  have hRv:(R:Int)=al.getD i 0+4294967296*val r:=by
   rw [hRd]
   have:val ([al.getD i 0]++r)=(al.getD i 0).toNat+4294967296*val r:=jH hw1
   rw [this];omega
  have hRB:R<B2*4294967296:=om
  have hRn:R<4294967296^(m+2):=by
   have k1:B2*4294967296<4294967296^(m+1)*4294967296:=Nat.mul_lt_mul_of_pos_right hB2N om
   have k2:4294967296^(m+2)=4294967296^(m+1)*4294967296:=Nat.pow_succ ..
   omega
  have hRp:=vz hRn
  have wR:=aI R
  have hlR:(lim R).length<=m+2:=ip hRn
  have vR:=aW R
  have hmb:(bl.length:Int)=((m+1:Nat):Int):=om
  rw [hmb]
  refine cw wR ⟨by unfold rng;omega,cw wR ⟨by unfold rng;omega,cw wB ?_⟩⟩
  have h1:=wR (m+1)
  have h2:=wR m
  have h3:=wB m
  have hBt:(B2:Int)=pv bl2 m+bl2.getD m 0*4294967296^m:=by rw [hBtop,pv]
  have hb2m:=bp wB m
  have hr4:0<bl2.getD m 0:=by
   rcases Int.lt_or_le 0 (bl2.getD m 0) with hh | hh
   ·exact hh
   ·have:bl2.getD m 0=0:=om
    rw [this] at hBt;omega
  have e32:(2:Int)^Int.toNat 32=4294967296:=rfl
  rw [e32,wrap_u64_id (m:=(lim R).getD (m+1) 0*4294967296) om om,t5 32 h2.1 h2.2 om (by show _ % 4294967296=0;omega) om]
  generalize hhead:(lim R).getD (m+1) 0*4294967296+(lim R).getD m 0=head
  have hhead0:0<=head:=om
  have hq0:0<=head / bl2.getD m 0:=Int.ediv_nonneg hhead0 om
  have hq1:head / bl2.getD m 0<=head:=Int.ediv_le_self _ hhead0
  rw [Int.tdiv_eq_ediv_of_nonneg hhead0,wrap_u64_id hq0 om]
  refine ⟨by omega,hY ?_⟩
  obtain ⟨g0,hg0⟩:∃g0:Nat,min (head / bl2.getD m 0) 4294967295=(g0:Int):=⟨(min (head / bl2.getD m 0) 4294967295).toNat,by omega⟩
  have hg0W:g0<4294967296:=om
  have hU:R<(g0+1)*B2:=by
   by_cases hcase:head / bl2.getD m 0<=4294967295
   ·have hge:head / bl2.getD m 0=g0:=om
    have k1:head<((g0:Int)+1)*bl2.getD m 0:=by
     have d1:head=bl2.getD m 0*(head / bl2.getD m 0)+head % bl2.getD m 0:=(Int.mul_ediv_add_emod head _).symm
     have d2:head % bl2.getD m 0<bl2.getD m 0:=Int.emod_lt_of_pos _ hr4
     rw [hge] at d1
     rw [Int.add_mul,Int.mul_comm];omega
    have k2:(head+1)*4294967296^m<=(((g0:Int)+1)*bl2.getD m 0)*4294967296^m:=Int.mul_le_mul_of_nonneg_right om om
    have k3:(R:Int)=pv (lim R) m+head*4294967296^m:=by
     rw [hRp,pv,pv,ew1,<-hhead,Int.add_mul,Int.mul_assoc ((lim R).getD (m+1) 0),Int.mul_comm 4294967296];omega
    have k4:=(bp wR m).2
    have k5:((g0:Int)+1)*B2=((g0:Int)+1)*pv bl2 m+(((g0:Int)+1)*bl2.getD m 0)*4294967296^m:=by rw [hBt,Int.mul_add,Int.mul_assoc]
    have k6:0<=((g0:Int)+1)*pv bl2 m:=Int.mul_nonneg om hb2m.1
    have k7:(((g0+1)*B2:Nat):Int)=((g0:Int)+1)*B2:=by simp
    rw [Int.add_mul] at k2
    omega
   ·have:g0=4294967295:=om
    subst this
    omega
  rw [hg0,wrap_u32]
  have hg0m:(g0:Int) % 4294967296=g0:=om
  rw [hg0m]
  refine lL wB (Words.one om om) (by simp;omega) ?_
  have vB:val bl2=B2:=by rw [<-hlB2];exact aW B2
  rw [Af hg0W,vB]
  refine ⟨λy=>∃g:Nat,y=((g:Int),lim (B2*g))/\g<4294967296/\R<(g+1)*B2,λy=>y.1.toNat,⟨g0,rfl,hg0W,hU⟩,?_⟩
  rintro _ ⟨g,rfl,hgW,hgU⟩
  have wP:=aI (B2*g)
  have vP:=aW (B2*g)
  have hPl:(lim (B2*g)).length<=m+2:=by
   refine ip ?_
   rw [Nat.pow_succ]
   exact Nat.mul_lt_mul_of_lt_of_le hB2N om om
  refine nY wP wR (by unfold SM;omega) (by unfold SM;omega) ?_
  rw [vP,vR]
  refine condT (λhgt=>?_) (λhle=>?_)
  ·have hgt':=wU.1 hgt
   have hg1:1<=g:=by
    rcases Nat.eq_zero_or_pos g with hh | hh
    ·subst hh;simp at hgt'
    ·exact hh
   have hmul:B2*(g-1)=B2*g-B2:=by rw [Nat.mul_sub,Nat.mul_one]
   have hBle:B2<=B2*g:=Nat.le_mul_of_pos_right _ hg1
   refine lK wP wB (by unfold SM;omega) (by unfold SM;omega) (λhh=>?_) (λ_=>?_)
   ·rw [vP,vB] at hh;omega
   ·rw [vP,vB,wrap_u64_id (m:=(g:Int)-1) om om,<-hmul]
    refine ⟨⟨g-1,?_,by omega,?_⟩,by dsimp only;omega⟩
    ·have:(g:Int)-1=((g-1:Nat):Int):=om
     rw [this]
    ·have:g-1+1=g:=om
     rw [this,Nat.mul_comm];exact hgt'
  ·have hle':B2*g<=R:=by
    rcases Nat.lt_or_ge R (B2*g) with hh | hh
    ·exact absurd (wU.2 hh) hle
    ·exact hh
   refine lK wR wP (by unfold SM;omega) (by unfold SM;omega) (λhh=>?_) (λ_=>?_)
   ·rw [vP,vR] at hh;omega
   ·rw [vP,vR,wrap_u32,ft]
    have hgm:(g:Int) % 4294967296=g:=om
    rw [hgm]
    have hRlt:R-B2*g<B2:=by rw [Nat.add_mul,Nat.mul_comm g] at hgU;omega
    have hqil:i<q.length:=om
    refine ⟨⟨by omega,by omega⟩,by unfold rng;omega,⟨i,.inl rfl,by omega,aI _,?_,?_,by simp [hql],hqw.set _ om om,λk hk=>?_,?_⟩,by dsimp only;omega⟩
    ·show (lim (R-B2*g)).length<=m+1
     exact ip om
    ·show val (lim (R-B2*g))<B2
     rw [aW];exact hRlt
    ·show (q.set i _).getD k 0=0
     rw [ct om];exact hqz k om
    ·show (A2:Int)=pv (q.set i (g:Int)) L*B2+val (lim (R-B2*g))*4294967296^i+pv al i
     rw [aW,gk hqil L om,hqz i om,Int.sub_zero,hsum,Int.add_mul,pv,Int.pow_succ]
     have k1:((R-B2*g:Nat):Int)=(R:Int)-B2*g:=by rw [Int.natCast_sub hle'];simp
     have k2:((R:Int)-B2*g)*4294967296^i=R*4294967296^i-g*4294967296^i*B2:=by
      generalize (4294967296:Int)^i=z
      grind
     have k3:(R:Int)*4294967296^i=al.getD i 0*4294967296^i+val r*(4294967296^i*4294967296):=by
      rw [hRv,Int.add_mul,Int.mul_comm 4294967296 (val r:Int),Int.mul_assoc,Int.mul_comm 4294967296]
     rw [k1,k2,k3]
     omega
 ·obtain rfl:j=0:=om
  have hq1:=cm hqw
  rw [hql] at hq1
  simp only [pv,Int.pow_zero,Int.mul_one,Int.add_zero] at hsum
  rw [<-hq1] at hsum
  have hsumN:A2=val q*B2+val r:=by
   have:((A2:Nat):Int)=((val q*B2+val r:Nat):Int):=by rw [Int.natCast_add,Int.natCast_mul];exact hsum
   omega
  have hps':0<2^s:=Nat.pow_pos om
  have hdiv:A / B=val q:=by
   have k1:A*2^s / (B*2^s)=A / B:=Nat.mul_div_mul_right _ _ hps'
   rw [<-k1,<-hA2,<-hB2,hsumN,Nat.add_comm,Nat.add_mul_div_right _ _ hB20,Nat.div_eq_of_lt hrB];omega
  have hmod:A % B=val r / 2^s:=by
   have k1:A*2^s % (B*2^s)=A % B*2^s:=Nat.mul_mod_mul_right _ _ _
   rw [<-hA2,<-hB2,hsumN,Nat.add_comm,Nat.add_mul_mod_self_right,Nat.mod_eq_of_lt hrB] at k1
   rw [k1,Nat.mul_div_cancel _ hps']
  refine dp hqw (by unfold SM;omega) (wv hrw (by unfold SM;omega) om ?_)
  rw [<-hmod,<-hdiv]
  exact h
theorem sf {a b:List Int} {Q:List Int->Prop} (ha:Words a) (hb:Words b) (la:a.length<=1099511627760) (lb:b.length<=1099511627760) (h:Q (lim (Nat.gcd (val a) (val b)))):lM a b Q:=by
 refine dp ha (by unfold SM;omega) (dp hb (by unfold SM;omega) ?_)
 have b1:=dj ha
 have b2:=dj hb
 refine ⟨λy=>∃m n:Nat,y=(lim m,lim n)/\(lim m).length<=1099511627760/\(lim n).length<=1099511627760/\Nat.gcd m n=Nat.gcd (val a) (val b),λy=>val y.2,⟨_,_,rfl,by omega,by omega,rfl⟩,?_⟩
 rintro _ ⟨m,n,rfl,hm,hn,hg⟩
 refine condT (λhc=>?_) (λhc=>?_)
 ·have hn0:n≠0:=by rintro rfl;rw [c9] at hc;simp at hc
  refine nX (aI m) (aI n) hm hn (λh0=>absurd (by rw [aW] at h0;exact h0) hn0) (λ_=>?_)
  rw [aW,aW]
  have hlt:=Nat.mod_lt m (Nat.pos_of_ne_zero hn0)
  refine ⟨⟨n,m % n,rfl,hn,Nat.le_trans (cF (Nat.le_of_lt hlt)) hn,?_⟩,?_⟩
  ·rw [<-hg,Nat.gcd_comm n,<-Nat.gcd_rec,Nat.gcd_comm]
  ·show val (lim (m % n))<val (lim n)
   rw [aW,aW];exact hlt
 ·have hn0:n=0:=by
   rcases Nat.eq_zero_or_pos n with h0 | h0
   ·exact h0
   ·rw [fA h0] at hc;simp at hc
  subst hn0
  rw [Nat.gcd_zero_right] at hg
  rw [<-hg] at h
  exact h
end Go.Gg
namespace Go.Gg
theorem dO {σ:Type} {n:Nat} (J:Nat->σ->Prop) (ix:σ->Int) (c:Int) (hix:∀i y,J i y->ix y=i+c) {x0:σ} {body:σ->(σ->Prop)->Prop} (h0:J 0 x0)
  (hs:∀i y (next:σ->Prop),i<n->J i y->(∀z,J (i+1) z->next z)->body y next) (he:∀y (next:σ->Prop),J n y->body y next):bh x0 body:=by
 refine ⟨λy=>∃i,i<=n/\J i y,λy=>n-(ix y-c).toNat,⟨0,Nat.zero_le _,h0⟩,?_⟩
 rintro y ⟨i,hi,hJ⟩
 rcases Nat.lt_or_ge i n with h | h
 ·refine hs i y _ h hJ λz hz=>⟨⟨i+1,h,hz⟩,?_⟩
  have h1:=hix i y hJ
  have h2:=hix (i+1) z hz
  dsimp only
  rw [h1,h2]
  omega
 ·obtain rfl:i=n:=om
  exact he y _ hJ
theorem eI {σ:Type} {n:Nat} (f:Nat->σ) (ix:σ->Int) (c:Int) (hix:∀i,ix (f i)=i+c) {x0:σ} {body:σ->(σ->Prop)->Prop} (h0:x0=f 0)
  (hs:∀i (next:σ->Prop),i<n->next (f (i+1))->body (f i) next) (he:∀(next:σ->Prop),body (f n) next):bh x0 body:=
 dO (λi y=>y=f i) ix c (λi y h=>by rw [h];exact hix i) h0 (λi y next hi hy hn=>hy▸hs i next hi (hn _ rfl)) (λy next hy=>hy▸he next)
theorem kM {n:Nat} (P:Nat->Prop) {E:Prop} {st:Int->(Int->Prop)->Prop} (hn:n<=9223372036854775807)
  (hs:∀(i:Nat) (next:Int->Prop),i<n->(∀j,j<i->¬P j)->(¬P i->rng ((i:Int)+1)/\next ((i:Int)+1))->st (i:Int) next)
  (he:(∀j,j<n->¬P j)->E):bh (σ:=Int) 0 (λx next=>ah (decide (x<(n:Int))) (st x next) E):=by
 refine dO (n:=n) (λi y=>y=(i:Int)/\∀j,j<i->¬P j) (λy=>y) 0 (λi y h=>by rw [h.1,Int.add_zero]) ⟨rfl,λj hj=>absurd hj om⟩ ?_ ?_
 ·rintro i _ next hi ⟨rfl,hI⟩ hn2
  refine condT (λhc=>hs i next hi hI λhP=>⟨by unfold rng;omega,hn2 _ ⟨by omega,λj hj=>?_⟩⟩) (λhc=>absurd (show (i:Int)<n by omega) hc)
  rcases Nat.lt_or_ge j i with h1 | h1
  ·exact hI j h1
  ·obtain rfl:j=i:=om
   exact hP
 ·rintro _ next ⟨rfl,hI⟩
  exact condT (λhc=>absurd hc om) (λ_=>he hI)
def jq (g:Nat->Int):Nat->Int
 | 0=>0
 | n+1=>if jq g n=0 then g n else jq g n
theorem b9 {g:Nat->Int}:∀ {n:Nat},jq g n=0↔∀i,i<n->g i=0
 | 0=>⟨λ_ i hi=>absurd hi om,λ_=>rfl⟩
 | n+1=>by
  rw [jq]
  constructor
  ·intro h i hi
   split at h
   ·rename_i h1
    rcases Nat.lt_or_ge i n with h2 | h2
    ·exact b9.1 h1 i h2
    ·obtain rfl:i=n:=om
     exact h
   ·rename_i h1;exact absurd h h1
  ·intro h
   rw [if_pos (b9.2 λi hi=>h i om)]
   exact h n om
theorem gt {g:Nat->Int} {i:Nat} (h:∀j,j<i->g j=0) (hg:g i≠0):∀n,i<n->jq g n=g i
 | 0,hn=>absurd hn om
 | n+1,hn=>by
  rw [jq]
  rcases Nat.lt_or_ge i n with h1 | h1
  ·rw [gt h hg n h1,if_neg hg]
  ·obtain rfl:i=n:=om
   rw [if_pos (b9.2 h)]
end Go.Gg
namespace Go.Gg
def sgn (neg:Bool) (n:Nat):Int:=if neg then -(n:Int) else n
def bj (q:Rat):GRat:=if q.num=0 then ⟨false,[],[]⟩ else ⟨decide (q.num<0),lim q.num.natAbs,lim q.den⟩
def xN (a:GRat):Rat:=mkRat (sgn a.Neg (val a.Num)) (val a.Den)
def eqR (a b:GRat):Bool:=a.Neg == b.Neg && a.Num == b.Num && a.Den == b.Den
def okR (a:GRat):Bool:=eqR a (bj (xN a))
def b6 (a:GRat):Rat:=if okR a then xN a else 0
theorem qQ {a b:GRat}:eqR a b=true↔a=b:=by
 cases a;cases b
 simp [eqR,and_assoc]
theorem px {n:Int}:sgn (decide (n<0)) n.natAbs=n:=by
 unfold sgn
 by_cases h:n<0
 ·simp only [h,decide_true,if_true];omega
 ·simp only [h,decide_false,Bool.false_eq_true,if_false];omega
theorem tQ (q:Rat):xN (bj q)=q:=by
 unfold bj
 by_cases h:q.num=0
 ·rw [if_pos h]
  have:q=0:=Rat.num_eq_zero.1 h
  subst this
  simp [xN,sgn,mR]
 ·rw [if_neg h]
  simp only [xN]
  rw [aW,aW,px,Rat.mkRat_self]
theorem vK (q:Rat):okR (bj q)=true:=by
 unfold okR
 rw [tQ]
 exact qQ.2 rfl
theorem il (q:Rat):b6 (bj q)=q:=by rw [b6,vK,if_pos rfl,tQ]
theorem ru {a:GRat} (h:okR a=true):a=bj (b6 a):=by
 have:=qQ.1 h
 rw [b6,h,if_pos rfl]
 exact this
def gl (l:List Int):Bool:=decide (0<l.length) && (l.getD (l.length-1) 0 != 0)
theorem vI {n:Nat} (h:n≠0):gl (lim n)=true:=by
 have h1:=wD h
 have h2:(lim n).length≠0:=by rw [fA om];simp
 simp only [gl,Bool.and_eq_true,decide_eq_true_eq,bne_iff_ne]
 exact ⟨by omega,h1⟩
theorem oJ {l:List Int} (hw:Words l) (h:gl l=true):lim (val l)=l/\val l≠0:=by
 simp only [gl,Bool.and_eq_true,decide_eq_true_eq,bne_iff_ne] at h
 have h1:=Ae hw (λ_=>h.2)
 refine ⟨h1,λh0=>?_⟩
 rw [h0,c9] at h1
 rw [<-h1] at h
 simp at h
theorem DD {b:Bool} {n:Nat} (h:n≠0):decide (sgn b n<0)=b:=by
 cases b
 ·simp [sgn]
 ·simp [sgn];omega
theorem p9 {b:Bool} {n:Nat}:(sgn b n).natAbs=n:=by cases b<;>simp [sgn]
theorem B5 {b:Bool}:sgn b 0=0:=by cases b<;>rfl
theorem Fw {b:Bool} {n:Nat} (h:n≠0):sgn b n≠0:=by
 intro h0
 have:=p9 (b:=b) (n:=n)
 rw [h0] at this
 exact h (by simpa using this.symm)
theorem tU {b:Bool} {n d:Nat} (hn:n≠0) (hd:d≠0):bj (mkRat (sgn b n) d)=⟨b,lim (n / Nat.gcd n d),lim (d / Nat.gcd n d)⟩:=by
 have e1:(mkRat (sgn b n) d).num=sgn b (n / Nat.gcd n d):=by
  rw [Rat.num_mkRat,if_neg hd,p9,Nat.gcd_comm]
  cases b
  ·simp [sgn]
  ·simp only [sgn,if_true]
   have:((Nat.gcd n d:Nat):Int) ∣ (n:Int):=Int.natCast_dvd_natCast.2 (Nat.gcd_dvd_left n d)
   rw [Int.neg_ediv_of_dvd this]
   simp
 have e2:(mkRat (sgn b n) d).den=d / Nat.gcd n d:=by rw [Rat.den_mkRat,if_neg hd,p9,Nat.gcd_comm]
 have hg:0<n / Nat.gcd n d:=Nat.div_pos (Nat.le_of_dvd om (Nat.gcd_dvd_left n d)) (Nat.gcd_pos_of_pos_left _ om)
 unfold bj
 rw [e1,e2,if_neg (Fw om),DD om,p9]
theorem rr {b:Bool} {d:Nat}:bj (mkRat (sgn b 0) d)=⟨false,[],[]⟩:=by rw [B5,Rat.zero_mkRat];rfl
theorem z6 {a:GRat} (hn:Words a.Num) (hd:Words a.Den) :
  okR a=if a.Num.length=0/\a.Den.length=0 then !a.Neg else gl a.Num && (gl a.Den && decide (Nat.gcd (val a.Num) (val a.Den)=1)):=by
 obtain ⟨b,n,d⟩:=a
 simp only at hn hd ⊢
 by_cases h:n.length=0/\d.length=0
 ·rw [if_pos h]
  obtain rfl:=List.eq_nil_of_length_eq_zero h.1
  obtain rfl:=List.eq_nil_of_length_eq_zero h.2
  simp only [okR,xN,mR,rr]
  cases b<;>rfl
 ·rw [if_neg h]
  cases hp:gl n with
  | false=>
   rw [Bool.false_and]
   cases ho:okR ⟨b,n,d⟩ with
   | false=>rfl
   | true=>
    exfalso
    have e:=ru ho
    unfold bj at e
    split at e
    ·cases e;exact h ⟨rfl,rfl⟩
    ·rename_i hz
     injection e with e1 e2 e3
     rw [e2,vI om] at hp
     cases hp
  | true=>
  rw [Bool.true_and]
  cases hq:gl d with
  | false=>
   rw [Bool.false_and]
   cases ho:okR ⟨b,n,d⟩ with
   | false=>rfl
   | true=>
    exfalso
    have e:=ru ho
    unfold bj at e
    split at e
    ·cases e;exact h ⟨rfl,rfl⟩
    ·rename_i hz
     injection e with e1 e2 e3
     rw [e3,vI (Rat.den_nz _)] at hq
     cases hq
  | true=>
  rw [Bool.true_and]
  obtain ⟨n1,n2⟩:=oJ hn hp
  obtain ⟨d1,d2⟩:=oJ hd hq
  have hm:bj (xN ⟨b,n,d⟩)=⟨b,lim (val n / Nat.gcd (val n) (val d)),lim (val d / Nat.gcd (val n) (val d))⟩:=tU n2 d2
  by_cases hg:Nat.gcd (val n) (val d)=1
  ·rw [hg] at hm
   simp only [hg,decide_true]
   rw [okR]
   refine qQ.2 ?_
   rw [hm,Nat.div_one,Nat.div_one,n1,d1]
  ·simp only [hg,decide_false]
   cases ho:okR ⟨b,n,d⟩ with
   | false=>rfl
   | true=>
    exfalso
    have e:=qQ.1 ho
    rw [hm] at e
    injection e with e1 e2 e3
    have e4:val n=val n / Nat.gcd (val n) (val d):=by
     have:=congrArg val e2
     rwa [aW] at this
    have hgp:0<Nat.gcd (val n) (val d):=Nat.gcd_pos_of_pos_left _ om
    have:=Nat.div_lt_self (n:=val n) om (show 1<Nat.gcd (val n) (val d) by omega)
    omega
def RB (k:Nat) (q:Rat):Prop:=q.num.natAbs<2^k/\q.den<2^k
theorem RB.mono {k l:Nat} {q:Rat} (h:RB k q) (hkl:k<=l):RB l q:=
 ⟨Nat.lt_of_lt_of_le h.1 (Nat.pow_le_pow_right om hkl),Nat.lt_of_lt_of_le h.2 (Nat.pow_le_pow_right om hkl)⟩
theorem fB {n k:Nat} (h:n<2^k):(lim n).length<=k / 32+1:=by
 refine ip (Nat.lt_of_lt_of_le h ?_)
 have:(4294967296:Nat)^(k / 32+1)=2^(32*(k / 32+1)):=by rw [Nat.pow_mul]
 rw [this]
 exact Nat.pow_le_pow_right om om
theorem tl (k:Nat) (hk:1<=k):RB k 0:=⟨by simp;exact Nat.pow_pos om,by
 have:2^1<=2^k:=Nat.pow_le_pow_right om hk
 simp;omega⟩
theorem d_ {m n k l:Nat} (h:m<2^k) (h':n<2^l):m*n<2^(k+l):=by
 rw [Nat.pow_add]
 exact Nat.mul_lt_mul'' h h'
theorem rb {n:Int} {d k:Nat} (hd:d≠0) (hn:n.natAbs<2^k) (hdk:d<2^k):RB k (mkRat n d):=by
 refine ⟨?_,?_⟩
 ·rw [Rat.num_mkRat,if_neg hd]
  refine Nat.lt_of_le_of_lt ?_ hn
  exact Int.natAbs_ediv_le_natAbs _ _
 ·rw [Rat.den_mkRat,if_neg hd]
  exact Nat.lt_of_le_of_lt (Nat.div_le_self _ _) hdk
theorem zu {k l:Nat} {p q:Rat} (hp:RB k p) (hq:RB l q):RB (k+l) (p*q):=by
 rw [Rat.mul_def']
 refine rb (Nat.mul_ne_zero p.den_nz q.den_nz) ?_ (d_ hp.2 hq.2)
 rw [Int.natAbs_mul]
 exact d_ hp.1 hq.1
theorem zw {k l:Nat} {p q:Rat} (hp:RB k p) (hq:RB l q):RB (k+l+1) (p+q):=by
 rw [Rat.add_def']
 refine rb (Nat.mul_ne_zero p.den_nz q.den_nz) ?_ (Nat.lt_of_lt_of_le (d_ hp.2 hq.2) (Nat.pow_le_pow_right om om))
 have h1:(p.num*q.den).natAbs<2^(k+l):=by rw [Int.natAbs_mul];exact d_ hp.1 (by simpa using hq.2)
 have h2:(q.num*p.den).natAbs<2^(k+l):=by rw [Int.natAbs_mul,Nat.add_comm k l];exact d_ hq.1 (by simpa using hp.2)
 have h3:=Int.natAbs_add_le (p.num*q.den) (q.num*p.den)
 rw [Nat.pow_succ]
 omega
theorem uK {k:Nat} {p:Rat} (hp:RB k p):RB k (-p):=⟨by simpa using hp.1,hp.2⟩
theorem Gb {k:Nat} {p:Rat} (hp:RB k p):RB k p⁻¹:=by
 by_cases h0:p.num=0
 ·have:p=0:=Rat.num_eq_zero.1 h0
  subst this
  simpa using hp
 ·refine ⟨?_,?_⟩
  ·rw [Rat.num_inv,Int.natAbs_mul,Int.natAbs_sign_of_ne_zero h0,Nat.one_mul];simpa using hp.2
  ·rw [Rat.den_inv,if_neg h0];exact hp.1
theorem zv {k l:Nat} {p q:Rat} (hp:RB k p) (hq:RB l q):RB (k+l) (p / q):=by rw [Rat.div_def];exact zu hp (Gb hq)
theorem zt {k l:Nat} {p q:Rat} (hp:RB k p) (hq:RB l q):RB (k+l+1) (p-q):=by rw [Rat.sub_eq_add_neg];exact zw hp (uK hq)
theorem pT {k:Nat} {n:Int} (hk:1<=k) (h:n.natAbs<2^k):RB k (n:Rat):=⟨h,by
 have:2^1<=2^k:=Nat.pow_le_pow_right om hk
 show 1<2^k
 omega⟩
theorem EB {a:GRat} {m:Nat} (hn:Words a.Num) (hd:Words a.Den) (h1:a.Num.length<=m) (h2:a.Den.length<=m):RB (32*m+1) (b6 a):=by
 unfold b6
 split
 ·unfold xN
  by_cases hd0:val a.Den=0
  ·rw [hd0,Rat.mkRat_zero];exact tl _ om
  ·have e:∀l:List Int,Words l->l.length<=m->val l<2^(32*m+1):=λl hw hl=>by
    have k1:=pn hw
    have k2:(4294967296:Nat)^l.length<=4294967296^m:=Nat.pow_le_pow_right om hl
    have k3:(4294967296:Nat)^m=2^(32*m):=by rw [Nat.pow_mul]
    have k4:2^(32*m)<=2^(32*m+1):=Nat.pow_le_pow_right om om
    omega
   exact rb hd0 (by rw [p9];exact e _ hn h1) (e _ hd h2)
 ·exact tl _ om
end Go.Gg
namespace Go.Gg
def Fr (a:GRat):Prop:=Words a.Num/\Words a.Den/\a.Num.length<=1099511627760/\a.Den.length<=1099511627760
theorem oz {q:Rat} {k:Nat} (h:RB k q) (hk:k<=35184372088000):Fr (bj q):=by
 unfold bj
 split
 ·exact ⟨Words.nil,Words.nil,by simp,by simp⟩
 ·have h1:=fB h.1
  have h2:=fB h.2
  exact ⟨aI _,aI _,by dsimp only;omega,by dsimp only;omega⟩
theorem nh {n:Nat}:((lim n).length:Int)=0↔n=0:=by
 constructor
 ·intro h
  rcases Nat.eq_zero_or_pos n with h0 | h0
  ·exact h0
  ·rw [fA h0] at h;simp at h;omega
 ·rintro rfl;rw [c9];rfl
theorem gL {n:Nat}:(bX n:Int)=0↔n=0:=by
 unfold bX
 split<;>omega
theorem zP {b:Bool} {m n:Nat}:sgn b (m*n)=sgn b m*(n:Int):=by
 cases b<;>simp [sgn,Int.natCast_mul,Int.neg_mul]
theorem xB {b c:Bool} {m n:Nat}:sgn (b != c) (m*n)=sgn b m*sgn c n:=by
 cases b<;>cases c<;>simp [sgn,Int.natCast_mul,Int.neg_mul,Int.mul_neg,Int.neg_neg]
theorem zQ {b:Bool} {m n:Nat}:sgn b (m+n)=sgn b m+sgn b n:=by
 cases b<;>simp only [sgn,Bool.false_eq_true,if_false,if_true]<;>omega
theorem sX {b c:Bool} {m n:Nat} (hbc:¬b=c) (h:n<=m):sgn b (m-n)=sgn b m+sgn c n:=by
 cases b<;>cases c<;>first | exact absurd rfl hbc | (simp only [sgn,Bool.false_eq_true,if_false,if_true];omega)
theorem nQ (q:Rat):sgn (decide (q.num<0)) q.num.natAbs=q.num:=px
theorem wa:val [1]=1:=Af (g:=1) om
theorem ER:lim 1=[1]:=by rw [fA om];simp [c9]
theorem v9:Words [1]:=Words.one om om
theorem eK {neg:Bool} {num den:List Int} {Q:GRat->Prop} (hn:Words num) (hd:Words den) (ln:num.length<=1099511627760) (ld:den.length<=1099511627760)
  (h0:val den≠0) (h:Q (bj (mkRat (sgn neg (val num)) (val den)))):cR neg num den Q:=by
 refine t9 hn (by unfold SM;omega) (bO (λhc=>?_) (λhc=>?_))
 ·rw [gL] at hc
  rw [hc,rr] at h
  exact h
 ·have hn0:val num≠0:=λhh=>hc (gL.2 hh)
  rw [tU hn0 h0] at h
  have hgp:Nat.gcd (val num) (val den)≠0:=Nat.ne_of_gt (Nat.gcd_pos_of_pos_left _ om)
  refine pg hn hd om om ?_
  have hgl:(lim (Nat.gcd (val num) (val den))).length<=1099511627760:=by
   refine Nat.le_trans (cF (Nat.gcd_le_left _ om)) (Nat.le_trans (dj hn) ln)
  refine mj hn (aI _) om om (λhh=>absurd (by rwa [aW] at hh) hgp) (λ_=>?_)
  refine mj hd (aI _) om om (λhh=>absurd (by rwa [aW] at hh) hgp) (λ_=>?_)
  rw [aW]
  exact h
theorem my {a:List Int} {Q:Bool->Prop} (la:a.length<=1099511627776) (h:Q (gl a)):gE a Q:=by
 refine condT (λhc=>⟨by unfold rng;omega,by omega,?_⟩) (λhc=>?_)
 ·have e:gl a=(at' a ((a.length:Int)-1) != 0):=by
   have:(a.length:Int)-1=((a.length-1:Nat):Int):=om
   rw [this,fR]
   simp only [gl]
   rw [decide_eq_true (by omega:0<a.length),Bool.true_and]
  rw [<-e];exact h
 ·have e:gl a=false:=by
   simp only [gl]
   rw [decide_eq_false (by omega:¬0<a.length),Bool.false_and]
  rw [e] at h;exact h
theorem bg {b:Bool} {p q:Prop} (h1:b=true->p) (h2:b=false->q):ah b p q:=⟨h1,h2⟩
theorem sQ {n:Nat} {Q:Int->Prop} (hl:(lim n).length<=1099511627776) (h:Q (np n 1)):dq (lim n) [1] Q:=by
 refine fN (aI _) v9 (by unfold SM;omega) (by unfold SM;simp) ?_
 rw [aW,wa]
 exact h
theorem C1 {m n:Nat}:(np m n == 0)=decide (m=n):=by
 unfold np
 split
 ·rw [decide_eq_false om];rfl
 ·split
  ·rename_i h;rw [decide_eq_true h];rfl
  ·rename_i h;rw [decide_eq_false h];rfl
theorem mz {a:GRat} {Q:Bool->Prop} (fa:Fr a) (h:Q (okR a)):gF a Q:=by
 obtain ⟨hn,hd,ln,ld⟩:=fa
 rw [z6 hn hd] at h
 refine ⟨λx=>x=decide (a.Num.length=0/\a.Den.length=0),?_,?_⟩
 ·refine bO (λhc=>?_) (λhc=>?_)
  ·by_cases hd0:a.Den.length=0
   ·rw [decide_eq_true ⟨by omega,hd0⟩];simp;exact List.eq_nil_of_length_eq_zero hd0
   ·rw [decide_eq_false om];simp;intro hh;exact hd0 (by rw [hh];rfl)
  ·rw [decide_eq_false om]
 ·rintro _ rfl
  refine condT (λhc=>?_) (λhc=>?_)
  ·rw [if_pos hc] at h;exact h
  ·rw [if_neg hc] at h
   refine my om (bg (λhp=>?_) (λhp=>?_))
   ·rw [hp,Bool.true_and] at h
    refine my om (bg (λhq=>?_) (λhq=>?_))
    ·rw [hq,Bool.true_and] at h
     refine pg hn hd om om ?_
     have hgl:(lim (Nat.gcd (val a.Num) (val a.Den))).length<=1099511627760:=by
      refine Nat.le_trans (cF (Nat.gcd_le_left _ ?_)) (Nat.le_trans (dj hn) ln)
      have:=(oJ hn hp).2
      omega
     show dq (lim (Nat.gcd (val a.Num) (val a.Den))) [1] (λr4=>Q (r4 == 0))
     refine sQ om ?_
     rw [C1]
     exact h
    ·rw [hq,Bool.false_and] at h;exact h
   ·rw [hp,Bool.false_and] at h;exact h
theorem BJ {a:GRat} (h:okR a=false):b6 a=0:=by rw [b6,h];rfl
theorem tX {a:GRat} (h:okR a=true->a.Num.length=0):b6 a=0:=by
 cases ho:okR a with
 | false=>exact BJ ho
 | true=>
  have e:=ru ho
  have hl:=h ho
  unfold bj at e
  split at e
  ·rename_i hz;exact Rat.num_eq_zero.1 hz
  ·rename_i hz
   rw [e] at hl
   have:=nh.1 (by rw [hl];rfl)
   omega
theorem tY {a:GRat} (ho:okR a=true) (hl:a.Num.length≠0):(b6 a).num≠0/\a=⟨decide ((b6 a).num<0),lim (b6 a).num.natAbs,lim (b6 a).den⟩:=by
 have e:=ru ho
 by_cases hz:(b6 a).num=0
 ·exfalso
  unfold bj at e
  rw [if_pos hz] at e
  rw [e] at hl
  exact hl rfl
 ·refine ⟨hz,?_⟩
  unfold bj at e
  rw [if_neg hz] at e
  exact e
theorem e7 {a:GRat} {Q:Bool->List Int->List Int->Prop} (fa:Fr a) (h:Q (decide ((b6 a).num<0)) (lim (b6 a).num.natAbs) (lim (b6 a).den)):dh a Q:=by
 refine ⟨λx=>x=(!okR a || decide (a.Num.length=0)),?_,?_⟩
 ·refine mz fa (bg (λhc=>?_) (λhc=>?_))
  ·rw [hc];rfl
  ·rw [hc,Bool.false_or]
   by_cases hl:a.Num.length=0
   ·rw [decide_eq_true hl];simp;exact List.eq_nil_of_length_eq_zero hl
   ·rw [decide_eq_false hl];simp;intro hh;exact hl (by rw [hh];rfl)
 ·rintro _ rfl
  refine bg (λhc=>?_) (λhc=>?_)
  ·have hz:b6 a=0:=tX (λho=>by rw [ho] at hc;simpa using hc)
   rw [hz] at h
   simp at h
   rw [c9,ER] at h
   exact h
  ·simp at hc
   obtain ⟨_,e⟩:=tY hc.1 (λhl=>hc.2 (List.eq_nil_of_length_eq_zero hl))
   rw [show a.Neg=decide ((b6 a).num<0) from by rw [e];simp [<-e],show a.Num=lim (b6 a).num.natAbs from by rw [e];simp [<-e],show a.Den=lim (b6 a).den from by rw [e];simp [<-e]]
   exact h
theorem oy {q:Rat} {k:Nat} (h:RB k q):(lim q.num.natAbs).length<=k / 32+1/\(lim q.den).length<=k / 32+1:=⟨fB h.1,fB h.2⟩
theorem lP {m n k l:Nat} (h:m<2^k) (h':n<2^l):(lim (m*n)).length<=(k+l) / 32+1:=fB (d_ h h')
theorem AH {m n k:Nat} (h:m<2^k) (h':n<2^k):(lim (m+n)).length<=(k+1) / 32+1:=fB (by rw [Nat.pow_succ];omega)
theorem yG (p q:Rat):p+q=mkRat (sgn (decide (p.num<0)) (p.num.natAbs*q.den)+sgn (decide (q.num<0)) (q.num.natAbs*p.den)) (p.den*q.den):=by
 rw [zP,zP,nQ,nQ,Rat.add_def']
theorem CJ (p q:Rat):p*q=mkRat (sgn (decide (p.num<0) != decide (q.num<0)) (p.num.natAbs*q.num.natAbs)) (p.den*q.den):=by
 rw [xB,nQ,nQ,Rat.mul_def']
theorem CM {q:Rat} (_h:q.num≠0):q⁻¹=mkRat (sgn (decide (q.num<0)) q.den) q.num.natAbs:=by
 rw [Rat.inv_def]
 by_cases hn:q.num<0
 ·rw [decide_eq_true hn]
  have e:q.num = -((q.num.natAbs:Nat):Int):=om
  rw [<-Rat.divInt_ofNat]
  show Rat.divInt q.den q.num=Rat.divInt (-(q.den:Int)) _
  rw [<-Rat.divInt_neg',<-e]
 ·rw [decide_eq_false hn]
  have e:q.num=((q.num.natAbs:Nat):Int):=om
  rw [<-Rat.divInt_ofNat]
  show Rat.divInt q.den q.num=Rat.divInt (q.den:Int) _
  rw [<-e]
theorem CV (p:Rat) {q:Rat} (h:q.num≠0):p / q=mkRat (sgn (decide (p.num<0) != decide (q.num<0)) (p.num.natAbs*q.den)) (p.den*q.num.natAbs):=by
 rw [Rat.div_def,CM h,xB,nQ]
 have:p=mkRat p.num p.den:=(Rat.mkRat_self p).symm
 rw [this,Rat.mkRat_mul_mkRat,<-this]
theorem yd (p:Rat) : -p=mkRat (sgn (!decide (p.num<0)) p.num.natAbs) p.den:=by
 have e:sgn (!decide (p.num<0)) p.num.natAbs = -p.num:=by
  by_cases h:p.num<0
  ·rw [decide_eq_true h];simp only [sgn,Bool.not_true,Bool.false_eq_true,if_false];omega
  ·rw [decide_eq_false h];simp only [sgn,Bool.not_false,if_true];omega
 rw [e,<-Rat.neg_mkRat,Rat.mkRat_self]
theorem n4 {a b:GRat} {k l:Nat} {Q:GRat->Prop} (fa:Fr a) (fb:Fr b) (ka:RB k (b6 a)) (kb:RB l (b6 b)) (hk:k+l+1<=35184372088000) (h:Q (bj (b6 a+b6 b))):dw a b Q:=by
 refine e7 fa (e7 fb ?_)
 generalize b6 a=p at ka h ⊢
 generalize b6 b=q at kb h ⊢
 have la:=oy ka
 have lb:=oy kb
 have l1:=lP ka.1 kb.2
 have l2:=lP kb.1 ka.2
 have l3:=lP ka.2 kb.2
 have hd:p.den*q.den≠0:=Nat.mul_ne_zero p.den_nz q.den_nz
 refine g_ (aI _) (aI _) om (g_ (aI _) (aI _) om (g_ (aI _) (aI _) om ?_))
 simp only [aW]
 rw [yG] at h
 refine bO (λhs=>?_) (λhs=>?_)
 ·refine vk (aI _) (aI _) (by unfold SM;omega) ⟨by omega,by omega⟩ ?_
  simp only [aW]
  have l4:(lim (p.num.natAbs*q.den+q.num.natAbs*p.den)).length<=(k+l+1) / 32+1:=AH (d_ ka.1 kb.2) (by rw [Nat.add_comm k];exact d_ kb.1 ka.2)
  refine eK (aI _) (aI _) om om (by rw [aW];exact hd) ?_
  rw [aW,aW,zQ]
  rw [<-hs] at h
  exact h
 ·refine fN (aI _) (aI _) (by unfold SM;omega) (by unfold SM;omega) ?_
  simp only [aW]
  refine condT (λhc=>?_) (λhc=>?_)
  ·have hle:q.num.natAbs*p.den<=p.num.natAbs*q.den:=by
    rcases Nat.lt_or_ge (p.num.natAbs*q.den) (q.num.natAbs*p.den) with h1 | h1
    ·have:=kA.2 h1;omega
    ·exact h1
   refine pf (aI _) (aI _) (by unfold SM;omega) (by unfold SM;omega) (λhh=>by rw [aW,aW] at hh;omega) (λ_=>?_)
   simp only [aW]
   have l4:=cF (Nat.sub_le (p.num.natAbs*q.den) (q.num.natAbs*p.den))
   refine eK (aI _) (aI _) om om (by rw [aW];exact hd) ?_
   rw [aW,aW,sX hs hle]
   exact h
  ·have hle:p.num.natAbs*q.den<=q.num.natAbs*p.den:=by
    rcases Nat.lt_or_ge (p.num.natAbs*q.den) (q.num.natAbs*p.den) with h1 | h1
    ·omega
    ·exfalso
     apply hc
     unfold np
     split
     ·omega
     ·split<;>omega
   refine pf (aI _) (aI _) (by unfold SM;omega) (by unfold SM;omega) (λhh=>by rw [aW,aW] at hh;omega) (λ_=>?_)
   simp only [aW]
   have l4:=cF (Nat.sub_le (q.num.natAbs*p.den) (p.num.natAbs*q.den))
   refine eK (aI _) (aI _) om om (by rw [aW];exact hd) ?_
   rw [aW,aW,sX (λe=>hs e.symm) hle,Int.add_comm]
   exact h
theorem tT {a b:GRat} {k l:Nat} {Q:GRat->Prop} (fa:Fr a) (fb:Fr b) (ka:RB k (b6 a)) (kb:RB l (b6 b)) (hk:k+l+1<=35184372088000) (h:Q (bj (b6 a*b6 b))):dv a b Q:=by
 refine e7 fa (e7 fb ?_)
 generalize b6 a=p at ka h ⊢
 generalize b6 b=q at kb h ⊢
 have la:=oy ka
 have lb:=oy kb
 have l1:=lP ka.1 kb.1
 have l3:=lP ka.2 kb.2
 have hd:p.den*q.den≠0:=Nat.mul_ne_zero p.den_nz q.den_nz
 refine g_ (aI _) (aI _) om (g_ (aI _) (aI _) om ?_)
 simp only [aW]
 refine eK (aI _) (aI _) om om (by rw [aW];exact hd) ?_
 rw [aW,aW,<-CJ]
 exact h
theorem tS {a:GRat} {k:Nat} {Q:GRat->Prop} (fa:Fr a) (ka:RB k (b6 a)) (hk:k<=35184372088000) (h:Q (bj (-b6 a))):kS a Q:=by
 refine e7 fa ?_
 generalize b6 a=p at ka h ⊢
 have la:=oy ka
 refine eK (aI _) (aI _) om om (by rw [aW];exact p.den_nz) ?_
 rw [aW,aW,<-yd]
 exact h
theorem tR {a b:GRat} {k l:Nat} {Q:GRat->Prop} (fa:Fr a) (fb:Fr b) (ka:RB k (b6 a)) (kb:RB l (b6 b)) (hk:k+l+1<=35184372088000) (h:Q (bj (b6 a-b6 b))):ey a b Q:=by
 refine ⟨_,tS fb kb om rfl,_,n4 fa (oz (uK kb) om) ka (by rw [il];exact uK kb) hk rfl,?_⟩
 rw [il,<-Rat.sub_eq_add_neg]
 exact h
def nR (q:Rat):Int:=if q.num=0 then 0 else if q.num<0 then -1 else 1
theorem sG {n:Int} {Q:List Int->Prop} (hn:rng n) (h:Q (lim n.natAbs)):jV n Q:=by
 refine bO (λhc=>?_) (λhc=>?_)
 ·subst hc
  have:lim (Int.natAbs (-9223372036854775808))=[0,2147483648]:=by
   rw [show Int.natAbs (-9223372036854775808)=9223372036854775808 from rfl,fA om,fA om]
   simp [c9]
  rw [this] at h
  exact h
 ·unfold rng at hn ⊢
  refine ⟨by omega,qx om ?_⟩
  have:(max n (-n)).toNat=n.natAbs:=om
  rw [this]
  exact h
theorem pb {n:Int} {Q:GRat->Prop} (hn:rng n) (h:Q (bj (n:Rat))):d8 n Q:=by
 refine sG hn ?_
 show cR _ _ [1] _
 have hl:(lim n.natAbs).length<=64 / 32+1:=fB (by unfold rng at hn;omega)
 refine eK (aI _) v9 om (by simp) (by rw [wa];omega) ?_
 rw [aW,wa,px,show mkRat n 1=(n:Rat) from Rat.mkRat_self (n:Rat)]
 exact h
end Go.Gg
namespace Go.Gg
theorem qe {neg:Bool} {num den:List Int} {Q:GRat->Int->Prop} (hn:Words num) (hd:Words den) (ln:num.length<=1099511627760) (ld:den.length<=1099511627760)
  (h8:val den=0->Q (bj 0) 8) (h:val den≠0->Q (bj (mkRat (sgn neg (val num)) (val den))) 0):fx neg num den Q:=by
 refine m9 hd (by unfold SM;omega) (bO (λhc=>?_) (λhc=>?_))
 ·exact h8 (gL.1 hc)
 have h0:val den≠0:=λhh=>hc (gL.2 hh)
 replace h:=h h0
 refine m9 hn (by unfold SM;omega) (bO (λhc=>?_) (λhc=>?_))
 ·rw [gL] at hc
  rw [hc,rr] at h
  exact h
 ·have hn0:val num≠0:=λhh=>hc (gL.2 hh)
  rw [tU hn0 h0] at h
  have hgp:Nat.gcd (val num) (val den)≠0:=Nat.ne_of_gt (Nat.gcd_pos_of_pos_left _ om)
  refine sf hn hd om om ?_
  have hgl:(lim (Nat.gcd (val num) (val den))).length<=1099511627760:=by
   refine Nat.le_trans (cF (Nat.gcd_le_left _ om)) (Nat.le_trans (dj hn) ln)
  refine nX hn (aI _) om om (λhh=>absurd (by rwa [aW] at hh) hgp) (λ_=>?_)
  refine nX hd (aI _) om om (λhh=>absurd (by rwa [aW] at hh) hgp) (λ_=>?_)
  rw [aW]
  exact h
theorem jy {neg:Bool} {num den:List Int} {Q:GRat->Int->Prop} (hn:Words num) (hd:Words den) (ln:num.length<=1099511627760) (ld:den.length<=1099511627760)
  (h0:val den≠0) (h:Q (bj (mkRat (sgn neg (val num)) (val den))) 0):fx neg num den Q:=
 qe hn hd ln ld (λhh=>absurd hh h0) (λ_=>h)
theorem C7 {n:Nat}:((bX n:Int) == 1)=decide (n=1):=by
 have h:(bX n:Int)=1↔n=1:=by
  constructor
  ·intro h
   have a:=oR (n:=n)
   rw [show bX n=1 by omega] at a
   have:n≠0:=by rintro rfl;rw [v5] at h;omega
   omega
  ·rintro rfl;rfl
 by_cases hn:n=1
 ·rw [decide_eq_true hn];simpa using h.2 hn
 ·rw [decide_eq_false hn];simpa using λe=>hn (h.1 e)
theorem o8 {a:GRat} {Q:Bool->Prop} (fa:Fr a) (h:Q (okR a)):gY a Q:=by
 obtain ⟨hn,hd,ln,ld⟩:=fa
 rw [z6 hn hd] at h
 have hpb:∀l:List Int,l.length≠0->l.length<=1099511627760->rng ((l.length:Int)-1)/\((0:Int)<=((l.length:Int)-1)/\((l.length:Int)-1)<(l.length:Int))/\gl l=(at' l ((l.length:Int)-1) != 0):=λl hl hl2=>by
  have:(l.length:Int)-1=((l.length-1:Nat):Int):=om
  refine ⟨by unfold rng;omega,by omega,?_⟩
  rw [this,fR]
  simp only [gl]
  rw [decide_eq_true (by omega:0<l.length),Bool.true_and]
 have hpn:∀l:List Int,l.length=0->gl l=false:=λl hl=>by
  simp only [gl]
  rw [decide_eq_false (by omega:¬0<l.length),Bool.false_and]
 refine ⟨λx=>x=decide (a.Num.length=0\/a.Den.length=0),?_,?_⟩
 ·refine bO (λhc=>?_) (λhc=>?_)
  ·rw [decide_eq_true om]
  ·by_cases hd0:a.Den.length=0
   ·rw [decide_eq_true om];simp;exact List.eq_nil_of_length_eq_zero hd0
   ·rw [decide_eq_false om];simp;intro hh;exact hd0 (by rw [hh];rfl)
 ·rintro _ rfl
  refine condT (λhc=>?_) (λhc=>?_)
  ·refine bO (λh1=>bO (λh2=>?_) (λh2=>?_)) (λh1=>?_)
   ·rw [if_pos om] at h;exact h
   ·rw [if_neg om,hpn _ (by omega:a.Num.length=0),Bool.false_and] at h;exact h
   ·rw [if_neg om,hpn a.Den om,Bool.false_and,Bool.and_false] at h;exact h
  ·obtain ⟨r1,r2,r3⟩:=hpb a.Num om ln
   obtain ⟨s1,s2,s3⟩:=hpb a.Den om ld
   rw [if_neg om] at h
   refine ⟨r1,r2,?_⟩
   rw [<-r3]
   refine bg (λhp=>⟨s1,s2,?_⟩) (λhp=>?_)
   ·rw [hp,Bool.true_and] at h
    rw [<-s3]
    refine bg (λhq=>?_) (λhq=>?_)
    ·rw [hq,Bool.true_and] at h
     refine sf hn hd om om ?_
     have hgl:(lim (Nat.gcd (val a.Num) (val a.Den))).length<=1099511627760:=by
      refine Nat.le_trans (cF (Nat.gcd_le_left _ ?_)) (Nat.le_trans (dj hn) ln)
      have:=(oJ hn hp).2
      omega
     refine m9 (aI _) (by unfold SM;omega) ?_
     rw [aW,C7]
     exact h
    ·rw [hq,Bool.false_and] at h;exact h
   ·rw [hp,Bool.false_and] at h;exact h
theorem jx {a:GRat} {Q:Bool->List Int->List Int->Prop} (fa:Fr a) (h:Q (decide ((b6 a).num<0)) (lim (b6 a).num.natAbs) (lim (b6 a).den)):fM a Q:=by
 refine ⟨λx=>x=(!okR a || decide (a.Num.length=0)),?_,?_⟩
 ·refine o8 fa (bg (λhc=>?_) (λhc=>?_))
  ·rw [hc];rfl
  ·have hc:okR a=true:=by simpa using hc
   rw [hc,Bool.not_true,Bool.false_or]
   by_cases hl:a.Num.length=0
   ·rw [decide_eq_true hl];simp;exact List.eq_nil_of_length_eq_zero hl
   ·rw [decide_eq_false hl];simp;intro hh;exact hl (by rw [hh];rfl)
 ·rintro _ rfl
  refine bg (λhc=>?_) (λhc=>?_)
  ·have hz:b6 a=0:=tX (λho=>by rw [ho] at hc;simpa using hc)
   rw [hz] at h
   simp at h
   rw [c9,ER] at h
   exact h
  ·simp at hc
   obtain ⟨_,e⟩:=tY hc.1 (λhl=>hc.2 (List.eq_nil_of_length_eq_zero hl))
   rw [show a.Neg=decide ((b6 a).num<0) from by rw [e];simp [<-e],show a.Num=lim (b6 a).num.natAbs from by rw [e];simp [<-e],show a.Den=lim (b6 a).den from by rw [e];simp [<-e]]
   exact h
theorem xL {a b:GRat} {k l:Nat} {Q:GRat->Prop} (fa:Fr a) (fb:Fr b) (ka:RB k (b6 a)) (kb:RB l (b6 b)) (hk:k+l+1<=35184372088000) (h:Q (bj (b6 a+b6 b))):nW a b Q:=by
 refine jx fa (jx fb ?_)
 generalize b6 a=p at ka h ⊢
 generalize b6 b=q at kb h ⊢
 have la:=oy ka
 have lb:=oy kb
 have l1:=lP ka.1 kb.2
 have l2:=lP kb.1 ka.2
 have l3:=lP ka.2 kb.2
 have hd:p.den*q.den≠0:=Nat.mul_ne_zero p.den_nz q.den_nz
 refine lL (aI _) (aI _) om (lL (aI _) (aI _) om (lL (aI _) (aI _) om ?_))
 simp only [aW]
 rw [yG] at h
 refine bO (λhs=>?_) (λhs=>?_)
 ·refine xM (aI _) (aI _) ⟨by omega,by omega⟩ ?_
  simp only [aW]
  have l4:(lim (p.num.natAbs*q.den+q.num.natAbs*p.den)).length<=(k+l+1) / 32+1:=AH (d_ ka.1 kb.2) (by rw [Nat.add_comm k];exact d_ kb.1 ka.2)
  refine jy (aI _) (aI _) om om (by rw [aW];exact hd) ?_
  rw [aW,aW,zQ]
  rw [<-hs] at h
  exact h
 ·refine CL (nY (aI _) (aI _) (by unfold SM;omega) (by unfold SM;omega) ?_)
  simp only [aW]
  refine condT (λhc=>?_) (λhc=>?_)
  ·have hlt:p.num.natAbs*q.den<q.num.natAbs*p.den:=kA.1 hc
   refine lK (aI _) (aI _) (by unfold SM;omega) (by unfold SM;omega) (λhh=>by rw [aW,aW] at hh;omega) (λ_=>?_)
   simp only [aW]
   have l4:=cF (Nat.sub_le (q.num.natAbs*p.den) (p.num.natAbs*q.den))
   refine jy (aI _) (aI _) om om (by rw [aW];exact hd) ?_
   rw [aW,aW,sX (λe=>hs e.symm) om,Int.add_comm]
   exact h
  ·have hle:q.num.natAbs*p.den<=p.num.natAbs*q.den:=by
    rcases Nat.lt_or_ge (p.num.natAbs*q.den) (q.num.natAbs*p.den) with h1 | h1
    ·exact absurd (kA.2 h1) hc
    ·exact h1
   refine lK (aI _) (aI _) (by unfold SM;omega) (by unfold SM;omega) (λhh=>by rw [aW,aW] at hh;omega) (λ_=>?_)
   simp only [aW]
   have l4:=cF (Nat.sub_le (p.num.natAbs*q.den) (q.num.natAbs*p.den))
   refine jy (aI _) (aI _) om om (by rw [aW];exact hd) ?_
   rw [aW,aW,sX hs hle]
   exact h
theorem xJ {a:GRat} {k:Nat} {Q:GRat->Prop} (fa:Fr a) (ka:RB k (b6 a)) (hk:k<=35184372088000) (h:Q (bj (-b6 a))):nU a Q:=by
 refine jx fa ?_
 generalize b6 a=p at ka h ⊢
 have la:=oy ka
 refine jy (aI _) (aI _) om om (by rw [aW];exact p.den_nz) ?_
 rw [aW,aW,<-yd]
 exact h
theorem xI {a b:GRat} {k l:Nat} {Q:GRat->Prop} (fa:Fr a) (fb:Fr b) (ka:RB k (b6 a)) (kb:RB l (b6 b)) (hk:k+l+1<=35184372088000) (h:Q (bj (b6 a-b6 b))):nT a b Q:=by
 refine ⟨_,xJ fb kb om rfl,_,xL fa (oz (uK kb) om) ka (by rw [il];exact uK kb) hk rfl,?_⟩
 rw [il,<-Rat.sub_eq_add_neg]
 exact h
theorem qc {a:GRat} {Q:Int->Prop} (fa:Fr a) (h:Q (nR (b6 a))):fw a Q:=by
 refine jx fa ?_
 generalize b6 a=p at h ⊢
 unfold nR at h
 refine bO (λhc=>?_) (λhc=>?_)
 ·rw [nh] at hc
  rw [if_pos om] at h;exact h
 ·have hq:p.num≠0:=λhh=>hc (nh.2 om)
  rw [if_neg hq] at h
  refine condT (λhs=>?_) (λhs=>?_)
  ·rw [if_pos hs] at h;exact h
  ·rw [if_neg hs] at h;exact h
theorem xK {a b:GRat} {k l:Nat} {Q:Int->Prop} (fa:Fr a) (fb:Fr b) (ka:RB k (b6 a)) (kb:RB l (b6 b)) (hk:k+l+1<=35184372088000) (h:Q (nR (b6 a-b6 b))):iw a b Q:=by
 refine xI fa fb ka kb hk (qc (oz (zt ka kb) hk) ?_)
 rw [il]
 exact h
theorem qb {n:Int} {Q:List Int->Prop} (hn:rng n) (h:∀l,Words l->l.length=2->val l=n.natAbs->Q l):kp n Q:=by
 unfold rng at hn
 refine CL ?_
 have key:∀u:Int,u=n.natAbs->Q [(IntKind.wrap .u32 u),(IntKind.wrap .u32 (u / 2^(Int.toNat 32)))]:=by
  intro u hu
  rw [wrap_u32,wrap_u32]
  have h32:(2:Int)^(Int.toNat 32)=4294967296:=rfl
  rw [h32]
  have hw2:Words [u / 4294967296 % 4294967296]:=Words.one om om
  have hw:Words [u % 4294967296,u / 4294967296 % 4294967296]:=by
   intro i
   match i with
   | 0=>simp;omega
   | 1=>simp;omega
   | i+2=>simp
  refine h _ hw rfl ?_
  rw [jH hw,jH hw2,mR]
  omega
 refine condT (λhc=>hY ?_) (λhc=>?_)
 ·rw [nN,nN]
  exact key _ om
 ·rw [nN]
  exact key _ om
theorem qd {n d:Int} {Q:GRat->Int->Prop} (hn:rng n) (hd:rng d) (h0:d=0->Q (bj 0) 8) (h:d≠0->Q (bj ((n:Rat) / (d:Rat))) 0):kq n d Q:=by
 refine qb hn λl1 w1 e1 v1=>qb hd λl2 w2 e2 v2=>?_
 refine qe w1 w2 om om (λhz=>?_) (λhz=>?_)
 ·exact h0 om
 ·rw [v1,v2]
  have hd0:d≠0:=om
  have e:=CV (n:Rat) (q:=(d:Rat)) (by simpa using hd0)
  simp only [Rat.num_intCast,Rat.den_intCast,Nat.mul_one,Nat.one_mul] at e
  have h2:=h hd0
  rw [e] at h2
  exact h2
theorem yV {n:Int} {Q:GRat->Prop} (hn:rng n) (h:Q (bj (n:Rat))):m7 n Q:=by
 refine qd hn (by unfold rng;omega) (λhh=>absurd hh om) (λ_=>?_)
 have:(n:Rat) / ((1:Int):Rat)=n:=by
  rw [Rat.div_def]
  show (n:Rat)*(1:Rat)⁻¹=n
  rw [show (1:Rat)⁻¹=1 from (Rat.mul_one _).symm.trans (Rat.inv_mul_cancel 1 (by decide)),Rat.mul_one]
 rw [this]
 exact h
end Go.Gg
namespace Go.Gg
theorem sr {α:Type} [Inhabited α] {l m:List α} (hl:l.length=m.length) (h:∀i:Nat,i<l.length->at' l (i:Int)=at' m (i:Int)):l=m:=by
 refine List.ext_getElem hl λi h1 h2=>?_
 have:=h i h1
 simp only [at',Int.toNat_natCast,List.getD_eq_getElem?_getD,List.getElem?_eq_getElem h1,List.getElem?_eq_getElem h2,Option.getD_some] at this
 exact this
instance decGRat:DecidableEq GRat:=λ_ _=>decidable_of_iff _ qQ
theorem qW {a b:List Int} {Q:Bool->Prop} (la:a.length<=1099511627776) (h:Q (decide (a=b))):kB a b Q:=by
 refine fl (λhc=>?_) (λhc=>?_)
 ·rw [decide_eq_false (λe=>hc (by rw [e]))] at h;exact h
 ·have hl:a.length=b.length:=om
  refine ⟨λx=>∃i:Nat,x=i/\i<=a.length/\∀j:Nat,j<i->at' a (j:Int)=at' b (j:Int),λx=>a.length-x.toNat,⟨0,rfl,by omega,λj hj=>absurd hj om⟩,?_⟩
  rintro _ ⟨i,rfl,hi,hI⟩
  refine condT (λhc=>⟨⟨by omega,hc⟩,⟨by omega,by omega⟩,fl (λhne=>?_) (λhe=>⟨by unfold rng;omega,⟨i+1,by omega,by omega,λj hj=>?_⟩,by dsimp only;omega⟩)⟩) (λhc=>?_)
  ·rw [decide_eq_false (λe=>hne (by rw [e]))] at h;exact h
  ·rcases Nat.lt_or_ge j i with h1 | h1
   ·exact hI j h1
   ·obtain rfl:j=i:=om
    exact he
  ·rw [decide_eq_true (sr hl (λj hj=>hI j om))] at h;exact h
theorem uD {a b:GRat} {Q:Bool->Prop} (la:a.Num.length<=1099511627776) (ld:a.Den.length<=1099511627776) (h:Q (decide (a=b))):nw a b Q:=by
 obtain ⟨n,x,y⟩:=a
 obtain ⟨n',x',y'⟩:=b
 refine bO (λh1=>?_) (λh1=>?_)
 ·refine qW la (condT (λh2=>?_) (λh2=>?_))
  ·refine qW ld ?_
   dsimp only at h1 h2 ⊢
   subst h1 h2
   by_cases h3:y=y'
   ·subst h3;rw [decide_eq_true rfl] at h ⊢;exact h
   ·rw [decide_eq_false h3];rw [decide_eq_false (λe=>h3 (by injection e))] at h;exact h
  ·rw [decide_eq_false (λe=>h2 (by injection e))] at h;exact h
 ·rw [decide_eq_false (λe=>h1 (by injection e))] at h;exact h
theorem yD {a b:List GRat} {Q:Bool->Prop} (la:a.length<=1099511627776) (hs:∀i:Nat,i<a.length->(at' a (i:Int)).Num.length<=1099511627776/\(at' a (i:Int)).Den.length<=1099511627776)
  (h:Q (decide (a=b))):lU a b Q:=by
 refine fl (λhc=>?_) (λhc=>?_)
 ·rw [decide_eq_false (λe=>hc (by rw [e]))] at h;exact h
 ·have hl:a.length=b.length:=om
  refine ⟨λx=>∃i:Nat,x=i/\i<=a.length/\∀j:Nat,j<i->at' a (j:Int)=at' b (j:Int),λx=>a.length-x.toNat,⟨0,rfl,by omega,λj hj=>absurd hj om⟩,?_⟩
  rintro _ ⟨i,rfl,hi,hI⟩
  refine condT (λhc=>⟨⟨by omega,hc⟩,⟨by omega,by omega⟩,_,uD (hs i om).1 (hs i om).2 rfl,bg (λhne=>?_) (λhe=>⟨by unfold rng;omega,⟨i+1,by omega,by omega,λj hj=>?_⟩,by dsimp only;omega⟩)⟩) (λhc=>?_)
  ·rw [Bool.not_eq_true',decide_eq_false_iff_not] at hne
   rw [decide_eq_false (λe=>hne (by rw [e]))] at h;exact h
  ·rw [Bool.not_eq_false',decide_eq_true_iff] at he
   rcases Nat.lt_or_ge j i with h1 | h1
   ·exact hI j h1
   ·obtain rfl:j=i:=om
    exact he
  ·rw [decide_eq_true (sr hl (λj hj=>hI j om))] at h;exact h
theorem uC {a:List GRat} {Q:Bool->Prop} (la:a.length<=1099511627776) (hs:∀i:Nat,i<a.length->(at' a (i:Int)).Num.length<=1099511627776/\(at' a (i:Int)).Den.length<=1099511627776)
  (h:Q true):lU a a Q:=yD la hs (by rw [decide_eq_true rfl];exact h)
def ly (e:Int):Option Int:=if e=0 then none else some e
end Go.Gg
namespace Go.Gg
def Rp (k:Nat) (a:GRat) (q:Rat):Prop:=Fr a/\b6 a=q/\RB k q
def WrR (a:GRat):Prop:=Words a.Num/\Words a.Den
def WrL (l:List GRat):Prop:=∀i:Nat,i<l.length->WrR (at' l (i:Int))
abbrev cap:Nat:=35184372088000
theorem Rp.of {q:Rat} {k:Nat} (h:RB k q) (hk:k<=cap):Rp k (bj q) q:=⟨oz h hk,il q,h⟩
theorem Rp.mono {a:GRat} {q:Rat} {k l:Nat} (h:Rp k a q) (hkl:k<=l):Rp l a q:=⟨h.1,h.2.1,h.2.2.mono hkl⟩
theorem Rp.self {a:GRat} {k:Nat} (h:Fr a) (hb:RB k (b6 a)):Rp k a (b6 a):=⟨h,rfl,hb⟩
theorem Rp.len {a:GRat} {q:Rat} {k:Nat} (h:Rp k a q):a.Num.length<=1099511627776/\a.Den.length<=1099511627776:=⟨Nat.le_trans h.1.2.2.1 om,Nat.le_trans h.1.2.2.2 om⟩
theorem Rp.zero {k:Nat} (hk:1<=k) (hk2:k<=cap):Rp k (⟨false,[],[]⟩:GRat) 0:=.of (tl k hk) hk2
theorem rT {n:Int} (hn:rng n):RB 64 (n:Rat):=pT om (by unfold rng at hn;omega)
theorem B6 {q:Rat}:nR q<0↔q<0:=by
 unfold nR
 have h1:q.num<0↔q<0:=by
  have:=Rat.num_nonneg (q:=q)
  rw [<-Int.not_le,this,Rat.not_le]
 split
 ·rename_i h;rw [h] at h1;simpa using h1
 ·split
  ·rename_i h;simpa using h1.1 h
  ·rename_i h;simpa using λhh=>h (h1.2 hh)
theorem DE {q:Rat}:nR q=0↔q=0:=by
 unfold nR
 constructor
 ·intro h
  split at h
  ·rename_i h0;exact Rat.num_eq_zero.1 h0
  ·split at h<;>omega
 ·rintro rfl;rfl
theorem lI {q:Rat}:0<=nR q↔0<=q:=by rw [<-Int.not_lt,B6,Rat.not_lt]
theorem xC {q:Rat}:0<nR q↔0<q:=by
 have h1:=@lI q
 have h2:=@DE q
 constructor
 ·intro h
  have h3:=h1.1 om
  rcases Rat.le_iff_lt_or_eq.1 h3 with h4 | h4
  ·exact h4
  ·have:=h2.2 h4.symm;omega
 ·intro h
  have h3:=h1.2 (Rat.le_of_lt h)
  have h4:nR q≠0:=λe=>by rw [h2.1 e] at h;exact Rat.lt_irrefl h
  omega
theorem xD {q:Rat}:nR q<=0↔q<=0:=by rw [<-Int.not_lt,xC,Rat.not_lt]
theorem xu {p q:Rat}:p-q<=0↔p<=q:=by constructor<;>intro h<;>grind
theorem E5 {a b:GRat} {p q:Rat} {k l:Nat} {Q:GRat->Prop} (ha:Rp k a p) (hb:Rp l b q) (hk:k+l+1<=cap) (h:Rp (k+l+1) (bj (p+q)) (p+q)->Q (bj (p+q))):dw a b Q:=by
 obtain ⟨fa,rfl,ka⟩:=ha
 obtain ⟨fb,rfl,kb⟩:=hb
 exact n4 fa fb ka kb hk (h (.of (zw ka kb) hk))
theorem Dg {a b:GRat} {p q:Rat} {k l:Nat} {K:GRat->Prop} (ha:Rp k a p) (hb:Rp l b q) (hk:k+l+1<=cap) (h:Rp (k+l+1) (bj (p+q)) (p+q)->K (bj (p+q))):eJ (dw a b) K:=
 ⟨_,E5 ha hb hk (λ_=>rfl),h (.of (zw ha.2.2 hb.2.2) hk)⟩
theorem B0 {a b:GRat} {p q:Rat} {k l:Nat} {Q:GRat->Prop} (ha:Rp k a p) (hb:Rp l b q) (hk:k+l+1<=cap) (h:Rp (k+l+1) (bj (p-q)) (p-q)->Q (bj (p-q))):ey a b Q:=by
 obtain ⟨fa,rfl,ka⟩:=ha
 obtain ⟨fb,rfl,kb⟩:=hb
 exact tR fa fb ka kb hk (h (.of (zt ka kb) hk))
theorem Fs {a b:GRat} {p q:Rat} {k l:Nat} {K:GRat->Prop} (ha:Rp k a p) (hb:Rp l b q) (hk:k+l+1<=cap) (h:Rp (k+l+1) (bj (p-q)) (p-q)->K (bj (p-q))):eJ (ey a b) K:=
 ⟨_,B0 ha hb hk (λ_=>rfl),h (.of (zt ha.2.2 hb.2.2) hk)⟩
theorem EQ {a b:GRat} {p q:Rat} {k l:Nat} {Q:GRat->Prop} (ha:Rp k a p) (hb:Rp l b q) (hk:k+l+1<=cap) (h:Rp (k+l) (bj (p*q)) (p*q)->Q (bj (p*q))):dv a b Q:=by
 obtain ⟨fa,rfl,ka⟩:=ha
 obtain ⟨fb,rfl,kb⟩:=hb
 exact tT fa fb ka kb hk (h (.of (zu ka kb) (by simp only [cap] at hk ⊢;omega)))
theorem CI {a b:GRat} {p q:Rat} {k l:Nat} {K:GRat->Prop} (ha:Rp k a p) (hb:Rp l b q) (hk:k+l+1<=cap) (h:Rp (k+l) (bj (p*q)) (p*q)->K (bj (p*q))):eJ (dv a b) K:=
 ⟨_,EQ ha hb hk (λ_=>rfl),h (.of (zu ha.2.2 hb.2.2) (by simp only [cap] at hk ⊢;omega))⟩
theorem GC {n:Int} {Q:GRat->Prop} (hn:rng n) (h:Rp 64 (bj (n:Rat)) (n:Rat)->Q (bj (n:Rat))):d8 n Q:=pb hn (h (.of (rT hn) (by decide)))
theorem GB {n:Int} {K:GRat->Prop} (hn:rng n) (h:Rp 64 (bj (n:Rat)) (n:Rat)->K (bj (n:Rat))):eJ (d8 n) K:=⟨_,pb hn rfl,h (.of (rT hn) (by decide))⟩
theorem B4 {a:GRat} {p:Rat} {k:Nat} {Q:Int->Prop} (ha:Rp k a p) (h:Q (nR p)):fw a Q:=by
 obtain ⟨fa,rfl,ka⟩:=ha
 exact qc fa h
theorem DB {a:GRat} {p:Rat} {k:Nat} {K:Int->Prop} (ha:Rp k a p) (h:K (nR p)):eJ (fw a) K:=⟨_,B4 ha rfl,h⟩
theorem EV {a b:GRat} {p q:Rat} {k l:Nat} {Q:Int->Prop} (ha:Rp k a p) (hb:Rp l b q) (hk:k+l+1<=cap) (h:Q (nR (p-q))):iw a b Q:=by
 obtain ⟨fa,rfl,ka⟩:=ha
 obtain ⟨fb,rfl,kb⟩:=hb
 exact xK fa fb ka kb hk h
theorem F2 {a b:GRat} {p q:Rat} {k l:Nat} {K:Int->Prop} (ha:Rp k a p) (hb:Rp l b q) (hk:k+l+1<=cap) (h:K (nR (p-q))):eJ (iw a b) K:=⟨_,EV ha hb hk rfl,h⟩
theorem GA {n:Int} {K:GRat->Prop} (hn:rng n) (h:Rp 64 (bj (n:Rat)) (n:Rat)->K (bj (n:Rat))):eJ (m7 n) K:=⟨_,yV hn rfl,h (.of (rT hn) (by decide))⟩
theorem BI {a:GRat} {K:Bool->Prop} (fa:Fr a) (h:K (okR a)):eJ (gY a) K:=⟨_,o8 fa rfl,h⟩
def fG (a:GRat):Bool:=okR a && (decide (0<=b6 a) && decide (b6 a<=1))
theorem y8 {q:Rat}:q<=1↔q.num<=(q.den:Int):=by
 rw [Rat.le_iff]
 simp
theorem nA {a:GRat} {Q:Bool->Prop} (fa:Fr a) (h:Q (fG a)):ia a Q:=by
 refine mz fa (bg (λhc=>?_) (λhc=>?_))
 ·unfold fG at h
  rw [hc,Bool.true_and] at h
  have e:=ru hc
  generalize b6 a=q at e h
  subst e
  by_cases hz:q.num=0
  ·have hq:q=0:=Rat.num_eq_zero.1 hz
   subst hq
   refine bg (λ_=>fN (a:=[]) (b:=[]) (λi=>by simp) (λi=>by simp) (by simp) (by simp) ?_) (λhh=>by cases hh)
   exact h
  ·have e2:bj q=⟨decide (q.num<0),lim q.num.natAbs,lim q.den⟩:=by unfold bj;rw [if_neg hz]
   rw [e2] at fa ⊢
   refine bg (λhn=>?_) (λhn=>?_)
   ·simp only [Bool.not_eq_true',decide_eq_false_iff_not] at hn
    refine fN fa.1 fa.2.1 (Nat.le_trans fa.2.2.1 om) (Nat.le_trans fa.2.2.2 om) ?_
    have e3:(decide (0<=q) && decide (q<=1))=decide (np (val (lim q.num.natAbs)) (val (lim q.den))<=0):=by
     rw [aW,aW,decide_eq_true (Rat.num_nonneg.1 om),Bool.true_and]
     refine decide_eq_decide.2 ?_
     rw [y8]
     have:=@wU q.num.natAbs q.den
     omega
    rw [e3] at h
    exact h
   ·simp only [Bool.not_eq_false',decide_eq_true_eq] at hn
    rw [decide_eq_false (λhh=>by have:=Rat.num_nonneg.2 hh;omega),Bool.false_and] at h
    exact h
 ·unfold fG at h
  rw [hc,Bool.false_and] at h
  exact h
theorem wq {a:GRat} {k:Nat} {Q:Bool->Prop} (fa:Fr a) (ka:RB k (b6 a)) (hk:k+65<=cap) (h:Q (fG a)):m4 a Q:=by
 unfold fG at h
 refine BI fa (bg (λhc=>?_) (λhc=>?_))
 ·rw [hc,Bool.true_and] at h
  refine DB (.self fa ka) (condT (λh0=>?_) (λh0=>?_))
  ·rw [decide_eq_true (lI.1 h0),Bool.true_and] at h
   refine GA (by unfold rng;omega) λh1=>F2 (.self fa ka) h1 (by simp only [cap] at hk ⊢;omega) ?_
   have e:decide (nR (b6 a-((1:Int):Rat))<=0)=decide (b6 a<=1):=decide_eq_decide.2 (by rw [xD];exact xu)
   rw [e];exact h
  ·rw [decide_eq_false (λhh=>h0 (lI.2 hh)),Bool.false_and] at h
   exact h
 ·rw [hc,Bool.false_and] at h
  exact h
end Go.Gg
namespace Go.Gg
end Go.Gg
namespace Go.Gg
abbrev Asg:=Nat->Bool
def cr (σ:Asg) (v:Nat) (b:Bool):Asg:=λi=>if i=v then b else σ i
theorem eZ {σ:Asg} {v:Nat} {b:Bool}:cr σ v b v=b:=by simp [cr]
theorem fU {σ:Asg} {v i:Nat} {b:Bool} (h:i≠v):cr σ v b i=σ i:=by simp [cr,h]
theorem sY {σ:Asg} {v:Nat}:cr σ v (σ v)=σ:=by
 funext i
 by_cases h:i=v
 ·subst h;exact eZ
 ·exact fU h
theorem zO {α:Type} {P:List α->Prop} (h0:P []) (h1:∀l x,P l->P (l++[x])) (l:List α):P l:=by
 have h:∀m:List α,P m.reverse:=by
  intro m
  induction m with
  | nil=>exact h0
  | cons x m ih=>rw [List.reverse_cons];exact h1 _ _ ih
 have:=h l.reverse
 rwa [List.reverse_reverse] at this
def yy (N:List GDNode) (σ:Asg):List Bool:=N.foldl (λacc x=>acc++[bif σ x.Var.toNat then acc.getD x.Hi.toNat false else acc.getD x.Lo.toNat false]) [false,true]
def den (N:List GDNode) (σ:Asg) (r:Nat):Bool:=(yy N σ).getD r false
theorem pO {N:List GDNode} {x:GDNode} {σ:Asg}:yy (N++[x]) σ=yy N σ++[bif σ x.Var.toNat then den N σ x.Hi.toNat else den N σ x.Lo.toNat]:=by
 simp [yy,den,List.foldl_append]
theorem rN {σ:Asg} (N:List GDNode):(yy N σ).length=2+N.length:=by
 induction N using zO with
 | h0=>rfl
 | h1 N x ih=>rw [pO,List.length_append,ih,List.length_append];simp;omega
theorem yA {N:List GDNode} {x:GDNode} {σ:Asg} {r:Nat} (h:r<2+N.length):den (N++[x]) σ r=den N σ r:=by
 unfold den
 rw [pO,List.getD_eq_getElem?_getD,List.getD_eq_getElem?_getD,List.getElem?_append_left (by rw [rN];exact h)]
theorem f_ {σ:Asg} {r:Nat} {N:List GDNode} (M:List GDNode) (h:r<2+N.length):den (N++M) σ r=den N σ r:=by
 induction M using zO with
 | h0=>simp
 | h1 M x ih=>rw [<-List.append_assoc,yA (by rw [List.length_append];omega),ih]
theorem CZ {N:List GDNode} {x:GDNode} {σ:Asg}:den (N++[x]) σ (2+N.length)=bif σ x.Var.toNat then den N σ x.Hi.toNat else den N σ x.Lo.toNat:=by
 conv=>lhs;unfold den
 rw [pO,List.getD_eq_getElem?_getD,List.getElem?_append_right (by rw [rN];omega),rN]
 simp
theorem up {N:List GDNode} {i:Nat} {x:GDNode} {σ:Asg} (hx:N[i]? = some x) (hl:x.Lo.toNat<2+i) (hh:x.Hi.toNat<2+i):den N σ (2+i)=bif σ x.Var.toNat then den N σ x.Hi.toNat else den N σ x.Lo.toNat:=by
 obtain ⟨hi,rfl⟩:=List.getElem?_eq_some_iff.1 hx
 have hlen:(N.take i).length=i:=by simp;omega
 have e:N=(N.take i++[N[i]])++N.drop (i+1):=by simp
 have hd:∀r,r<2+i->den N σ r=den (N.take i) σ r:=λr hr=>by
  conv=>lhs;rw [e]
  rw [f_ _ (by rw [List.length_append,hlen];omega),yA (by rw [hlen];exact hr)]
 rw [hd _ hl,hd _ hh]
 conv=>lhs;rw [e]
 rw [f_ _ (by rw [List.length_append,hlen];simp)]
 have:=CZ (N:=N.take i) (x:=N[i]) (σ:=σ)
 rw [hlen] at this
 exact this
theorem gu {N:List GDNode} {σ:Asg}:den N σ 0=false:=by
 have:=f_ (σ:=σ) (r:=0) (N:=[]) N (by simp)
 exact this.trans rfl
theorem i2 {N:List GDNode} {σ:Asg}:den N σ 1=true:=by
 have:=f_ (σ:=σ) (r:=1) (N:=[]) N (by simp)
 exact this.trans rfl
def lvl (n:Nat) (lev:Nat->Nat) (N:List GDNode) (r:Nat):Nat:=if r<2 then n else match N[r-2]? with | some x=>lev x.Var.toNat | none=>n
theorem io {n:Nat} {lev:Nat->Nat} {N:List GDNode} {r:Nat} (h:r<2):lvl n lev N r=n:=by simp [lvl,h]
theorem nf {n:Nat} {lev:Nat->Nat} {N:List GDNode} {i:Nat} {x:GDNode} (h:N[i]? = some x):lvl n lev N (2+i)=lev x.Var.toNat:=by
 have:¬2+i<2:=om
 simp [lvl,this,show 2+i-2=i by omega,h]
theorem qB {n:Nat} {lev:Nat->Nat} {N:List GDNode} (M:List GDNode) {r:Nat} (h:r<2+N.length):lvl n lev (N++M) r=lvl n lev N r:=by
 unfold lvl
 by_cases h2:r<2
 ·rw [if_pos h2,if_pos h2]
 ·rw [if_neg h2,if_neg h2,List.getElem?_append_left om]
structure LV (n:Nat) (lev:Nat->Nat):Prop where
 inj:∀i j,i<n->j<n->lev i=lev j->i=j
 lt:∀i,i<n->lev i<n
structure Nd (n:Nat) (lev:Nat->Nat) (N:List GDNode) (i:Nat) (x:GDNode):Prop where
 var:0<=x.Var/\x.Var<n
 lo:0<=x.Lo/\x.Lo<2+i
 hi:0<=x.Hi/\x.Hi<2+i
 ne:x.Lo≠x.Hi
 llo:lev x.Var.toNat<lvl n lev N x.Lo.toNat
 lhi:lev x.Var.toNat<lvl n lev N x.Hi.toNat
structure WT (n:Nat) (lev:Nat->Nat) (N:List GDNode):Prop where
 nd:∀(i:Nat) (x:GDNode),N[i]? = some x->Nd n lev N i x
 dis:∀(i j:Nat) (x:GDNode),N[i]? = some x->N[j]? = some x->i=j
section
variable {n:Nat} {lev:Nat->Nat} {N:List GDNode}
theorem WT.nil:WT n lev []:=⟨λi x h=>by simp at h,λi j x h=>by simp at h⟩
theorem iv {r:Nat} (h:r<2+N.length):r=0\/r=1\/∃i x,r=2+i/\N[i]? = some x:=by
 by_cases h0:r=0
 ·exact .inl h0
 by_cases h1:r=1
 ·exact .inr (.inl h1)
 ·exact .inr (.inr ⟨r-2,N[r-2]'om,by omega,List.getElem?_eq_getElem om⟩)
theorem WT.den_at (h:WT n lev N) {i:Nat} {x:GDNode} (hx:N[i]? = some x) (σ:Asg):den N σ (2+i)=bif σ x.Var.toNat then den N σ x.Hi.toNat else den N σ x.Lo.toNat:=by
 obtain ⟨_,b,c,_,_,_⟩:=h.nd i x hx
 exact up hx om om
theorem WT.den_set (h:WT n lev N) {v:Nat} {b:Bool}:∀ {r:Nat},r<2+N.length->lev v<lvl n lev N r->∀σ,den N (cr σ v b) r=den N σ r:=by
 intro r
 induction r using Nat.strongRecOn with
 | _ r ih=>
  intro hr hv σ
  rcases iv hr with rfl | rfl | ⟨i,x,rfl,hx⟩
  ·rw [gu,gu]
  ·rw [i2,i2]
  ·obtain ⟨a,b',c,_,e,f⟩:=h.nd i x hx
   have hi:=(List.getElem?_eq_some_iff.1 hx).1
   rw [nf hx] at hv
   have hne:x.Var.toNat≠v:=λhc=>by rw [hc] at hv;omega
   rw [h.den_at hx,h.den_at hx,fU hne,ih x.Hi.toNat om om om,ih x.Lo.toNat om om om]
theorem WT.lvl_le (hL:LV n lev) (h:WT n lev N) {r:Nat}:lvl n lev N r<=n:=by
 unfold lvl
 split
 ·exact Nat.le_refl _
 ·split
  ·rename_i x hx
   obtain ⟨a,_,_,_,_,_⟩:=h.nd _ x hx
   exact Nat.le_of_lt (hL.lt _ om)
  ·exact Nat.le_refl _
theorem WT.den_cof (h:WT n lev N) {i:Nat} {x:GDNode} (hx:N[i]? = some x) (σ:Asg) (b:Bool):den N (cr σ x.Var.toNat b) (2+i)=den N σ (bif b then x.Hi.toNat else x.Lo.toNat):=by
 obtain ⟨_,b',c,_,e,f⟩:=h.nd i x hx
 have hi:=(List.getElem?_eq_some_iff.1 hx).1
 rw [h.den_at hx,eZ]
 cases b
 ·exact h.den_set om e σ
 ·exact h.den_set om f σ
theorem WT.canon (hL:LV n lev) (h:WT n lev N) {r s:Nat} (hr:r<2+N.length) (hs:s<2+N.length) (he:∀σ,den N σ r=den N σ s):r=s:=by
 have key:∀b r s,r<b->s<b->r<2+N.length->s<2+N.length->(∀σ,den N σ r=den N σ s)->r=s:=by
  intro b
  induction b with
  | zero=>intro r s h1;omega
  | succ b ih=>
   have step:∀i x s,N[i]? = some x->2+i<b+1->s<2+N.length->lev x.Var.toNat<lvl n lev N s->(∀σ,den N σ (2+i)=den N σ s)->False:=by
    intro i x s hx hib hs hl he
    obtain ⟨a,b',c,d,e,f⟩:=h.nd i x hx
    have hi:=(List.getElem?_eq_some_iff.1 hx).1
    have:x.Lo.toNat=x.Hi.toNat:=ih _ _ om om om om λσ=>by
     have h1:=h.den_cof hx σ false
     have h2:=h.den_cof hx σ true
     rw [he,h.den_set hs hl] at h1 h2
     exact h1.symm.trans h2
    omega
   intro r s h1 h2 hr hs he
   rcases iv hr with rfl | rfl | ⟨i,x,rfl,hx⟩
   ·rcases iv hs with rfl | rfl | ⟨j,y,rfl,hy⟩
    ·rfl
    ·have:=he (λ_=>false);rw [gu,i2] at this;cases this
    ·exact (step j y 0 hy h2 hr (by rw [io om];exact hL.lt _ (by have:=(h.nd j y hy).var;omega)) (λσ=>(he σ).symm)).elim
   ·rcases iv hs with rfl | rfl | ⟨j,y,rfl,hy⟩
    ·have:=he (λ_=>false);rw [gu,i2] at this;cases this
    ·rfl
    ·exact (step j y 1 hy h2 hr (by rw [io om];exact hL.lt _ (by have:=(h.nd j y hy).var;omega)) (λσ=>(he σ).symm)).elim
   ·by_cases hl:lev x.Var.toNat<lvl n lev N s
    ·exact (step i x s hx h1 hs hl he).elim
    ·rcases iv hs with rfl | rfl | ⟨j,y,rfl,hy⟩
     ·exact (hl (by rw [io om];exact hL.lt _ (by have:=(h.nd i x hx).var;omega))).elim
     ·exact (hl (by rw [io om];exact hL.lt _ (by have:=(h.nd i x hx).var;omega))).elim
     ·by_cases hl2:lev y.Var.toNat<lvl n lev N (2+i)
      ·exact (step j y (2+i) hy h2 hr hl2 (λσ=>(he σ).symm)).elim
      ·rw [nf hx] at hl2
       rw [nf hy] at hl
       obtain ⟨a,b',c,d,e,f⟩:=h.nd i x hx
       obtain ⟨a2,b2,c2,d2,e2,f2⟩:=h.nd j y hy
       have hi:=(List.getElem?_eq_some_iff.1 hx).1
       have hj:=(List.getElem?_eq_some_iff.1 hy).1
       have hv:x.Var.toNat=y.Var.toNat:=hL.inj _ _ om om om
       have q1:x.Lo.toNat=y.Lo.toNat:=ih _ _ om om om om λσ=>by
        have p1:=h.den_cof hx σ false
        have p2:=h.den_cof hy σ false
        rw [hv,he] at p1
        exact p1.symm.trans p2
       have q2:x.Hi.toNat=y.Hi.toNat:=ih _ _ om om om om λσ=>by
        have p1:=h.den_cof hx σ true
        have p2:=h.den_cof hy σ true
        rw [hv,he] at p1
        exact p1.symm.trans p2
       have hxy:x=y:=by
        cases x;cases y
        simp only [GDNode.mk.injEq]
        simp only at *
        omega
       subst hxy
       rw [h.dis i j x hx hy]
 exact key (max r s+1) r s om om hr hs he
theorem WT.snoc (h:WT n lev N) {x:GDNode} (hv:0<=x.Var/\x.Var<n) (hlo:0<=x.Lo/\x.Lo<2+N.length) (hhi:0<=x.Hi/\x.Hi<2+N.length) (hne:x.Lo≠x.Hi) (h1:lev x.Var.toNat<lvl n lev N x.Lo.toNat) (h2:lev x.Var.toNat<lvl n lev N x.Hi.toNat)
  (hnew:x∉N):WT n lev (N++[x]):=by
 refine ⟨λi y hy=>?_,λi j y hi hj=>?_⟩
 ·rcases Nat.lt_or_ge i N.length with hi | hi
  ·rw [List.getElem?_append_left hi] at hy
   obtain ⟨a,b,c,d,e,f⟩:=h.nd i y hy
   exact ⟨a,b,c,d,by rw [qB _ om];exact e,by rw [qB _ om];exact f⟩
  ·have hil:i<(N++[x]).length:=(List.getElem?_eq_some_iff.1 hy).1
   simp only [List.length_append,List.length_singleton] at hil
   obtain rfl:i=N.length:=om
   rw [List.getElem?_append_right (Nat.le_refl _)] at hy
   simp at hy
   subst hy
   exact ⟨hv,hlo,hhi,hne,by rw [qB _ om];exact h1,by rw [qB _ om];exact h2⟩
 ·have hil:i<(N++[x]).length:=(List.getElem?_eq_some_iff.1 hi).1
  have hjl:j<(N++[x]).length:=(List.getElem?_eq_some_iff.1 hj).1
  simp only [List.length_append,List.length_singleton] at hil hjl
  by_cases hi':i<N.length
  ·rw [List.getElem?_append_left hi'] at hi
   by_cases hj':j<N.length
   ·rw [List.getElem?_append_left hj'] at hj
    exact h.dis i j y hi hj
   ·obtain rfl:j=N.length:=om
    rw [List.getElem?_append_right (Nat.le_refl _)] at hj
    simp at hj
    subst hj
    exact absurd (List.mem_of_getElem? hi) hnew
  ·obtain rfl:i=N.length:=om
   rw [List.getElem?_append_right (Nat.le_refl _)] at hi
   simp at hi
   subst hi
   by_cases hj':j<N.length
   ·rw [List.getElem?_append_left hj'] at hj
    exact absurd (List.mem_of_getElem? hj) hnew
   ·omega
end
end Go.Gg
namespace Go.Gg
instance:DecidableEq GDNode:=λa b=>decidable_of_iff (a.Var=b.Var/\a.Lo=b.Lo/\a.Hi=b.Hi) (by cases a;cases b;simp)
def mkD (v lo hi:Nat) (N:List GDNode):List GDNode×Nat:=
 if lo=hi then (N,lo) else if (⟨v,lo,hi⟩:GDNode)∈N then (N,2+N.idxOf ⟨v,lo,hi⟩) else (N++[⟨v,lo,hi⟩],2+N.length)
def dd:List Nat->(Asg->Bool)->List GDNode->List GDNode×Nat
 | [],f,N=>(N,if f (λ_=>false)=true then 1 else 0)
 | v :: vs,f,N=>mkD v (dd vs (λσ=>f (cr σ v false)) N).2 (dd vs (λσ=>f (cr σ v true)) (dd vs (λσ=>f (cr σ v false)) N).1).2 (dd vs (λσ=>f (cr σ v true)) (dd vs (λσ=>f (cr σ v false)) N).1).1
def Dep (f:Asg->Bool) (vs:List Nat):Prop:=∀σ σ':Asg,(∀v∈vs,σ v=σ' v)->f σ=f σ'
structure OrdL (n:Nat) (lev:Nat->Nat) (ord:List Nat):Prop where
 lv:LV n lev
 len:ord.length=n
 at_:∀i v,ord[i]? = some v->v<n/\lev v=i
 of:∀v,v<n->ord[lev v]? = some v
theorem OrdL.drop {n:Nat} {lev:Nat->Nat} {ord:List Nat} (h:OrdL n lev ord) {v:Nat} (hv:v<n):ord.drop (lev v)=v :: ord.drop (lev v+1):=by
 have h1:=h.of v hv
 obtain ⟨hl,he⟩:=List.getElem?_eq_some_iff.1 h1
 rw [List.drop_eq_getElem_cons hl,he]
theorem OrdL.mem {n:Nat} {lev:Nat->Nat} {ord:List Nat} (h:OrdL n lev ord) {l v:Nat}:v∈ord.drop l↔v<n/\l<=lev v:=by
 constructor
 ·intro hm
  obtain ⟨i,hi⟩:=List.mem_iff_getElem?.1 hm
  rw [List.getElem?_drop] at hi
  obtain ⟨a,b⟩:=h.at_ _ _ hi
  exact ⟨a,by omega⟩
 ·rintro ⟨hv,hl⟩
  refine List.mem_iff_getElem?.2 ⟨lev v-l,?_⟩
  rw [List.getElem?_drop,show l+(lev v-l)=lev v by omega]
  exact h.of v hv
theorem Dep.sub {f:Asg->Bool} {vs ws:List Nat} (h:Dep f vs) (hs:∀v∈vs,v∈ws):Dep f ws:=λσ σ' hh=>h σ σ' λv hv=>hh v (hs v hv)
theorem Dep.set {f:Asg->Bool} {v:Nat} {vs:List Nat} {b:Bool} (h:Dep f (v :: vs)):Dep (λσ=>f (cr σ v b)) vs:=λσ σ' hh=>h _ _ λw hw=>by
 by_cases he:w=v
 ·subst he;rw [eZ,eZ]
 ·rw [fU he,fU he];exact hh w ((List.mem_cons.1 hw).resolve_left he)
theorem Dep.not {f:Asg->Bool} {v:Nat} {vs:List Nat} (h:Dep f vs) (hv:v∉vs) (σ:Asg) (b:Bool):f (cr σ v b)=f σ:=h _ _ λ_w hw=>fU (λhe=>hv (he▸hw))
section
variable {n:Nat} {lev:Nat->Nat} {ord:List Nat} {N:List GDNode}
theorem WT.dep (hO:OrdL n lev ord) (h:WT n lev N) {r:Nat} (hr:r<2+N.length):Dep (λσ=>den N σ r) (ord.drop (lvl n lev N r)):=by
 induction r using Nat.strongRecOn with
 | _ r ih=>
  rcases iv hr with rfl | rfl | ⟨i,x,rfl,hx⟩
  ·exact λσ σ' _=>by simp only [gu]
  ·exact λσ σ' _=>by simp only [i2]
  ·obtain ⟨a,b,c,d,e,f⟩:=h.nd i x hx
   have hi:=(List.getElem?_eq_some_iff.1 hx).1
   intro σ σ' hh
   rw [nf hx] at hh
   simp only [h.den_at hx]
   rw [hh x.Var.toNat (hO.mem.2 ⟨by omega,Nat.le_refl _⟩)]
   have q1:=ih x.Lo.toNat om om σ σ' (λv hv=>hh v (hO.mem.2 ⟨(hO.mem.1 hv).1,by have:=(hO.mem.1 hv).2;omega⟩))
   have q2:=ih x.Hi.toNat om om σ σ' (λv hv=>hh v (hO.mem.2 ⟨(hO.mem.1 hv).1,by have:=(hO.mem.1 hv).2;omega⟩))
   simp only at q1 q2
   rw [q1,q2]
theorem WT.top (hO:OrdL n lev ord) (h:WT n lev N) {i:Nat} {x:GDNode} (hx:N[i]? = some x) (hd:∀σ b,den N (cr σ x.Var.toNat b) (2+i)=den N σ (2+i)):False:=by
 obtain ⟨a,b,c,d,e,f⟩:=h.nd i x hx
 have hi:=(List.getElem?_eq_some_iff.1 hx).1
 have:=h.canon hO.lv (r:=x.Lo.toNat) (s:=x.Hi.toNat) om om λσ=>by
  have h1:=h.den_cof hx σ false
  have h2:=h.den_cof hx σ true
  rw [hd] at h1 h2
  exact h1.symm.trans h2
 omega
theorem WT.lvl_ge (hO:OrdL n lev ord) (h:WT n lev N) {r l:Nat} (hr:r<2+N.length) (hl:l<=n) (hd:Dep (λσ=>den N σ r) (ord.drop l)):l<=lvl n lev N r:=by
 rcases iv hr with rfl | rfl | ⟨i,x,rfl,hx⟩
 ·rw [io om];exact hl
 ·rw [io om];exact hl
 ·rw [nf hx]
  rcases Nat.lt_or_ge (lev x.Var.toNat) l with hlt | hge
  ·exfalso
   refine h.top hO hx λσ b=>hd.not (λhm=>?_) σ b
   have:=(hO.mem.1 hm).2
   omega
  ·exact hge
theorem mM (hO:OrdL n lev ord) (h:WT n lev N):∀(k l:Nat),l+k=n->∀ {f:Asg->Bool} {r:Nat},Dep f (ord.drop l)->r<2+N.length->(∀σ,den N σ r=f σ)->dd (ord.drop l) f N=(N,r)
 | 0,l,hk,f,r,hd,hr,hf=>by
  have e:ord.drop l=[]:=List.drop_eq_nil_of_le (by rw [hO.len];omega)
  rw [e] at hd ⊢
  have hc:∀σ,den N σ r=f (λ_=>false):=λσ=>(hf σ).trans (hd _ _ (λv hv=>by simp at hv))
  rw [dd]
  cases hb:f (λ_=>false) with
  | true=>
   rw [if_pos rfl,h.canon hO.lv (r:=r) (s:=1) hr om (λσ=>by rw [hc,hb,i2])]
  | false=>
   rw [if_neg (by simp),h.canon hO.lv (r:=r) (s:=0) hr om (λσ=>by rw [hc,hb,gu])]
 | k+1,l,hk,f,r,hd,hr,hf=>by
  have hl:l<ord.length:=by rw [hO.len];omega
  have hdr:ord.drop l=ord[l] :: ord.drop (l+1):=List.drop_eq_getElem_cons hl
  generalize hv:ord[l]=v at hdr
  have hat:=hO.at_ l v (by rw [List.getElem?_eq_getElem hl,hv])
  rw [hdr] at hd ⊢
  have hdN:Dep (λσ=>den N σ r) (ord.drop l):=by
   rw [hdr]
   exact λσ σ' hh=>by simp only [hf];exact hd σ σ' hh
  have hge:=h.lvl_ge hO hr om hdN
  rw [dd]
  by_cases hlt:l<lvl n lev N r
  ·have hfs:∀b σ,den N σ r=f (cr σ v b):=λb σ=>by
    rw [<-hf,h.den_set hr (by rw [hat.2];exact hlt)]
   rw [mM hO h k (l+1) om (r:=r) hd.set hr (hfs false),mM hO h k (l+1) om (r:=r) hd.set hr (hfs true)]
   simp [mkD]
  ·have hle:lvl n lev N r=l:=om
   rcases iv hr with rfl | rfl | ⟨i,x,rfl,hx⟩
   ·rw [io om] at hle;omega
   ·rw [io om] at hle;omega
   ·obtain ⟨a,b,c,d,e,f'⟩:=h.nd i x hx
    have hi:=(List.getElem?_eq_some_iff.1 hx).1
    rw [nf hx] at hle
    have hxv:x.Var.toNat=v:=hO.lv.inj _ _ om hat.1 (by rw [hle,hat.2])
    have h1:∀σ,den N σ x.Lo.toNat=f (cr σ v false):=λσ=>by rw [<-hf,<-hxv];exact (h.den_cof hx σ false).symm
    have h2:∀σ,den N σ x.Hi.toNat=f (cr σ v true):=λσ=>by rw [<-hf,<-hxv];exact (h.den_cof hx σ true).symm
    rw [mM hO h k (l+1) om (r:=x.Lo.toNat) hd.set om h1,mM hO h k (l+1) om (r:=x.Hi.toNat) hd.set om h2]
    have hxe:(⟨(v:Int),((x.Lo.toNat:Nat):Int),((x.Hi.toNat:Nat):Int)⟩:GDNode)=x:=by
     cases x
     simp only [GDNode.mk.injEq]
     simp only at *
     omega
    have hm:x∈N:=List.mem_of_getElem? hx
    have hix:N.idxOf x=i:=by
     have hlt':N.idxOf x<N.length:=List.idxOf_lt_length_of_mem hm
     exact h.dis _ _ x (by rw [List.getElem?_eq_getElem hlt',List.getElem_idxOf]) hx
    simp only [mkD]
    rw [if_neg om,hxe,if_pos hm,hix]
theorem mL (hO:OrdL n lev ord):∀(k l:Nat),l+k=n->∀ {f:Asg->Bool} {N:List GDNode},WT n lev N->Dep f (ord.drop l)->
  WT n lev (dd (ord.drop l) f N).1/\(∃M,(dd (ord.drop l) f N).1=N++M)/\(dd (ord.drop l) f N).2<2+(dd (ord.drop l) f N).1.length/\∀σ,den (dd (ord.drop l) f N).1 σ (dd (ord.drop l) f N).2=f σ
 | 0,l,hk,f,N,h,hd=>by
  have e:ord.drop l=[]:=List.drop_eq_nil_of_le (by rw [hO.len];omega)
  rw [e] at hd ⊢
  rw [dd]
  refine ⟨h,⟨[],by simp⟩,?_,λσ=>?_⟩
  ·simp only;split<;>omega
  ·simp only
   rw [hd σ (λ_=>false) (λv hv=>by simp at hv)]
   split
   ·rename_i hb;rw [i2,hb]
   ·rename_i hb;rw [gu];simpa using hb
 | k+1,l,hk,f,N,h,hd=>by
  have hl:l<ord.length:=by rw [hO.len];omega
  have hdr:ord.drop l=ord[l] :: ord.drop (l+1):=List.drop_eq_getElem_cons hl
  generalize hv:ord[l]=v at hdr
  have hat:=hO.at_ l v (by rw [List.getElem?_eq_getElem hl,hv])
  rw [hdr] at hd ⊢
  obtain ⟨a1,⟨M1,a2⟩,a3,a4⟩:=mL hO k (l+1) om (f:=λσ=>f (cr σ v false)) h hd.set
  generalize hA:dd (ord.drop (l+1)) (λσ=>f (cr σ v false)) N=A at a1 a2 a3 a4
  obtain ⟨b1,⟨M2,b2⟩,b3,b4⟩:=mL hO k (l+1) om (f:=λσ=>f (cr σ v true)) a1 hd.set
  generalize hB:dd (ord.drop (l+1)) (λσ=>f (cr σ v true)) A.1=B at b1 b2 b3 b4
  rw [dd,hA,hB]
  have a3':A.2<2+B.1.length:=by rw [b2,List.length_append];omega
  have a4':∀σ,den B.1 σ A.2=f (cr σ v false):=λσ=>by rw [b2,f_ _ a3,a4]
  have hla:l+1<=lvl n lev B.1 A.2:=b1.lvl_ge hO a3' om (λσ σ' hh=>by simp only [a4'];exact hd.set σ σ' hh)
  have hlb:l+1<=lvl n lev B.1 B.2:=b1.lvl_ge hO b3 om (λσ σ' hh=>by simp only [b4];exact hd.set σ σ' hh)
  have hdec:∀σ,f σ=bif σ v then f (cr σ v true) else f (cr σ v false):=λσ=>by
   cases hs:σ v
   ·rw [show cr σ v false=σ by rw [<-hs];exact sY];rfl
   ·rw [show cr σ v true=σ by rw [<-hs];exact sY];rfl
  unfold mkD
  split
  ·rename_i heq
   refine ⟨b1,⟨M1++M2,by rw [b2,a2,List.append_assoc]⟩,a3',λσ=>?_⟩
   rw [hdec]
   cases hs:σ v
   ·exact a4' σ
   ·have:=b4 σ;rw [<-heq] at this;exact this
  ·rename_i hne
   have hval:∀(N':List GDNode) (i:Nat) σ,N'[i]? = some (⟨(v:Int),(A.2:Int),(B.2:Int)⟩:GDNode)->(∃M,N'=B.1++M)->A.2<2+i->B.2<2+i->den N' σ (2+i)=f σ:=by
    rintro N' i σ hi ⟨M,rfl⟩ ha hb
    rw [up hi (by simpa using ha) (by simpa using hb)]
    simp only [Int.toNat_natCast]
    rw [f_ _ a3',f_ _ b3,a4',b4]
    exact (hdec σ).symm
   split
   ·rename_i hm
    have hlt:B.1.idxOf (⟨(v:Int),(A.2:Int),(B.2:Int)⟩:GDNode)<B.1.length:=List.idxOf_lt_length_of_mem hm
    have hget:B.1[B.1.idxOf (⟨(v:Int),(A.2:Int),(B.2:Int)⟩:GDNode)]? = some (⟨(v:Int),(A.2:Int),(B.2:Int)⟩:GDNode):=by rw [List.getElem?_eq_getElem hlt,List.getElem_idxOf]
    obtain ⟨_,c1,c2,_⟩:=b1.nd _ _ hget
    simp only at c1 c2
    exact ⟨b1,⟨M1++M2,by rw [b2,a2,List.append_assoc]⟩,by simp only;omega,λσ=>hval B.1 _ σ hget ⟨[],by simp⟩ om om⟩
   ·rename_i hm
    refine ⟨b1.snoc ⟨by simp,by simp only;omega⟩ ⟨by simp,by simp only;omega⟩ ⟨by simp,by simp only;omega⟩ (by simp only;omega) (by simp only [Int.toNat_natCast];rw [hat.2];omega) (by simp only [Int.toNat_natCast];rw [hat.2];omega) hm,
     ⟨M1++M2++[⟨(v:Int),(A.2:Int),(B.2:Int)⟩],by rw [b2,a2];simp⟩,by simp,λσ=>hval _ _ σ (by simp) ⟨_,rfl⟩ a3' b3⟩
theorem Bn (hO:OrdL n lev ord) (h:WT n lev N) {f:Asg->Bool} {l:Nat} (hl:l<n) (hd:Dep f (ord.drop (l+1))):dd (ord.drop l) f N=dd (ord.drop (l+1)) f N:=by
 have hl':l<ord.length:=by rw [hO.len];omega
 have hdr:ord.drop l=ord[l] :: ord.drop (l+1):=List.drop_eq_getElem_cons hl'
 generalize hv:ord[l]=v at hdr
 have hat:=hO.at_ l v (by rw [List.getElem?_eq_getElem hl',hv])
 have hf:∀b,(λσ=>f (cr σ v b))=f:=λb=>by
  funext σ
  exact hd.not (λhm=>by have:=(hO.mem.1 hm).2;omega) σ b
 obtain ⟨a1,_,a3,a4⟩:=mL hO (n-(l+1)) (l+1) om h hd
 rw [hdr,dd,hf,hf,mM hO a1 (n-(l+1)) (l+1) om hd a3 a4]
 simp [mkD]
theorem pS (hO:OrdL n lev ord) (h:WT n lev N) {f:Asg->Bool}:∀(k l:Nat),l+k<=n->Dep f (ord.drop (l+k))->dd (ord.drop l) f N=dd (ord.drop (l+k)) f N
 | 0,l,_,_=>rfl
 | k+1,l,hk,hd=>by
  rw [Bn hO h om (hd.sub λv hv=>hO.mem.2 ⟨(hO.mem.1 hv).1,by have:=(hO.mem.1 hv).2;omega⟩),pS hO h k (l+1) om (by rw [show l+1+k=l+(k+1) by omega];exact hd),show l+1+k=l+(k+1) by omega]
theorem Bo (hO:OrdL n lev ord) (h:WT n lev N) {f:Asg->Bool} {v:Nat} (hv:v<n) (hd:Dep f (ord.drop (lev v))) :
  dd ord f N=mkD v (dd ord (λσ=>f (cr σ v false)) N).2 (dd ord (λσ=>f (cr σ v true)) (dd ord (λσ=>f (cr σ v false)) N).1).2 (dd ord (λσ=>f (cr σ v true)) (dd ord (λσ=>f (cr σ v false)) N).1).1:=by
 have hlt:=hO.lv.lt v hv
 have hd2:∀b,Dep (λσ=>f (cr σ v b)) (ord.drop (lev v+1)):=λb=>by
  rw [hO.drop hv] at hd
  exact hd.set
 have e:∀(g:Asg->Bool) (N:List GDNode),WT n lev N->Dep g (ord.drop (lev v+1))->dd ord g N=dd (ord.drop (lev v+1)) g N:=λg N hN hg=>by
  have:=pS hO hN (f:=g) (lev v+1) 0 om (by simpa using hg)
  simpa using this
 have h0:dd ord f N=dd (ord.drop (lev v)) f N:=by
  have:=pS hO h (f:=f) (lev v) 0 om (by simpa using hd)
  simpa using this
 obtain ⟨a1,_⟩:=mL hO (n-(lev v+1)) (lev v+1) om h (hd2 false)
 rw [h0,hO.drop hv,dd,e _ N h (hd2 false),e _ _ a1 (hd2 true)]
theorem q_ (hO:OrdL n lev ord) (h:WT n lev N) {f:Asg->Bool} (hd:Dep f ord):WT n lev (dd ord f N).1/\(∃M,(dd ord f N).1=N++M)/\(dd ord f N).2<2+(dd ord f N).1.length/\∀σ,den (dd ord f N).1 σ (dd ord f N).2=f σ:=by
 have:=mL hO n 0 om (f:=f) h (by simpa using hd)
 simpa using this
theorem Dh (hO:OrdL n lev ord) (h:WT n lev N) {f:Asg->Bool} {r:Nat} (hd:Dep f ord) (hr:r<2+N.length) (hf:∀σ,den N σ r=f σ):dd ord f N=(N,r):=by
 have:=mM hO h n 0 om (f:=f) (r:=r) (by simpa using hd) hr hf
 simpa using this
end
end Go.Gg
namespace Go.Gg
def FK (N:List GDNode):Nat->Nat->List Int->List Int
 | 0,_,b=>b
 | fu+1,r,b=>if r<2\/(r:Int)∈b then b else match N[r-2]? with
  | none=>b
  | some x=>FK N fu x.Hi.toNat (FK N fu x.Lo.toNat b)++[(r:Int)]
def Hl (N:List GDNode) (r:Nat) (b:List Int):List Int:=FK N (r+1) r b
section
variable {N:List GDNode}
def upto (k:Nat):List Int:=(List.range k).map λi=>((2+i:Nat):Int)
variable {n:Nat} {lev:Nat->Nat} {ord:List Nat}
end
end Go.Gg
namespace Go.Gg
theorem t_ {V:Type} {m:GMap V} {k q:List Int} {v:V}:cD (mput m k v) q=if q=k then some v else cD m q:=rfl
theorem ee {V:Type} {m:GMap V} {k q:Int} {v:V}:cD (mput m [k] v) [q]=if q=k then some v else cD m [q]:=by
 rw [t_]
 by_cases h:q=k
 ·subst h;rw [if_pos rfl,if_pos rfl]
 ·rw [if_neg h,if_neg (λhc=>h (by simpa using hc))]
theorem qA {V:Type} {q:List Int}:cD (iF:GMap V) q=none:=rfl
section
variable {n:Nat} {lev:Nat->Nat} {ord:List Nat}
structure EX (n:Nat) (lev:Nat->Nat) (T:List GDNode) (refs:GMap Int) (N:List GDNode):Prop where
 wt:WT n lev N
 c0:cD refs [0]=some 0
 c1:cD refs [1]=some 1
 sound:∀r x,cD refs [r]=some x->0<=r/\r.toNat<2+T.length/\0<=x/\x.toNat<2+N.length/\∀σ,den N σ x.toNat=den T σ r.toNat
 onto:∀i,i<N.length->∃r,cD refs [r]=some ((2+i:Nat):Int)
variable {T N:List GDNode} {refs:GMap Int}
theorem WT.dep_all (hO:OrdL n lev ord) (h:WT n lev N) {r:Nat} (hr:r<2+N.length):Dep (λσ=>den N σ r) ord:=(h.dep hO hr).sub λ_ hv=>List.mem_of_mem_drop hv
theorem EX.start:EX n lev T (mput (mput iF [0] 0) [1] 1) []:=by
 refine ⟨WT.nil,?_,?_,λr x h=>?_,λi hi=>by simp at hi⟩
 ·rw [ee,if_neg (by decide),ee,if_pos rfl]
 ·rw [ee,if_pos rfl]
 ·rw [ee] at h
  by_cases h1:r=1
  ·subst h1;rw [if_pos rfl] at h;cases h
   exact ⟨by decide,by simp;omega,by decide,by simp,λσ=>by rw [show (1:Int).toNat=1 from rfl,i2,i2]⟩
  ·rw [if_neg h1,ee] at h
   by_cases h0:r=0
   ·subst h0;rw [if_pos rfl] at h;cases h
    exact ⟨by decide,by simp;omega,by decide,by simp,λσ=>by rw [show (0:Int).toNat=0 from rfl,gu,gu]⟩
   ·rw [if_neg h0,qA] at h;cases h
theorem EX.old (hO:OrdL n lev ord) (hT:WT n lev T) (h:EX n lev T refs N) {r x:Int} (hr:cD refs [r]=some x):dd ord (λσ=>den T σ r.toNat) N=(N,x.toNat):=by
 obtain ⟨_,h2,_,h4,h5⟩:=h.sound r x hr
 exact Dh hO h.wt (hT.dep_all hO h2) h4 h5
theorem EX.node (hO:OrdL n lev ord) (hT:WT n lev T) {N1 N2:List GDNode} {refs2:GMap Int} {i:Nat} {x:GDNode} {y1 y2:Int} (hN:WT n lev N) (h:EX n lev T refs2 N2) (hx:T[i]? = some x) (hy1:0<=y1) (hy2:0<=y2)
  (e1:dd ord (λσ=>den T σ x.Lo.toNat) N=(N1,y1.toNat)) (e2:dd ord (λσ=>den T σ x.Hi.toNat) N1=(N2,y2.toNat)) (hno:cD refs2 [((2+i:Nat):Int)]=none) :
  dd ord (λσ=>den T σ (2+i)) N=(N2++[⟨x.Var,y1,y2⟩],2+N2.length)/\EX n lev T (mput refs2 [((2+i:Nat):Int)] ((2+N2.length:Nat):Int)) (N2++[⟨x.Var,y1,y2⟩]):=by
 obtain ⟨a,b,c,d,e,f⟩:=hT.nd i x hx
 have hi:=(List.getElem?_eq_some_iff.1 hx).1
 have hv:x.Var.toNat<n:=om
 have hd:=hT.dep hO (r:=2+i) om
 rw [nf hx] at hd
 have f1:(λσ=>den T (cr σ x.Var.toNat false) (2+i))=λσ=>den T σ x.Lo.toNat:=by funext σ;exact hT.den_cof hx σ false
 have f2:(λσ=>den T (cr σ x.Var.toNat true) (2+i))=λσ=>den T σ x.Hi.toNat:=by funext σ;exact hT.den_cof hx σ true
 have s1:=q_ hO hN (hT.dep_all hO (r:=x.Lo.toNat) om)
 rw [e1] at s1
 have s2:=q_ hO s1.1 (hT.dep_all hO (r:=x.Hi.toNat) om)
 rw [e2] at s2
 obtain ⟨w1,_,l1,d1⟩:=s1
 obtain ⟨w2,⟨M,rfl⟩,l2,d2⟩:=s2
 simp only at w1 l1 d1 w2 l2 d2
 have l1':y1.toNat<2+(N1++M).length:=by simp;omega
 have d1':∀σ,den (N1++M) σ y1.toNat=den T σ x.Lo.toNat:=λσ=>by rw [f_ _ l1,d1]
 have hne:y1.toNat≠y2.toNat:=λhc=>by
  have:=hT.canon hO.lv (r:=x.Lo.toNat) (s:=x.Hi.toNat) om om λσ=>by rw [<-d1',<-d2,hc]
  omega
 have hxe:(⟨((x.Var.toNat:Nat):Int),((y1.toNat:Nat):Int),((y2.toNat:Nat):Int)⟩:GDNode)=⟨x.Var,y1,y2⟩:=by
  simp only [GDNode.mk.injEq]
  omega
 have hval:∀(N':List GDNode) j σ,N'[j]? = some (⟨x.Var,y1,y2⟩:GDNode)->(∃M',N'=(N1++M)++M')->y1.toNat<2+j->y2.toNat<2+j->den N' σ (2+j)=den T σ (2+i):=by
  rintro N' j σ hj ⟨M',rfl⟩ h1 h2
  rw [up hj h1 h2,hT.den_at hx,f_ _ l1',f_ _ l2,d1',d2]
 have hnm:(⟨x.Var,y1,y2⟩:GDNode)∉N1++M:=λhm=>by
  obtain ⟨j,hj⟩:=List.mem_iff_getElem?.1 hm
  have hjl:=(List.getElem?_eq_some_iff.1 hj).1
  obtain ⟨_,p1,p2,_⟩:=w2.nd j _ hj
  simp only at p1 p2
  obtain ⟨r0,hr0⟩:=h.onto j hjl
  obtain ⟨q1,q2,_,_,q5⟩:=h.sound r0 _ hr0
  have:=hT.canon hO.lv (r:=r0.toNat) (s:=2+i) q2 om λσ=>by
   rw [<-q5,Int.toNat_natCast]
   exact hval _ j σ hj ⟨[],by simp⟩ om om
  rw [show r0=((2+i:Nat):Int) by omega,hno] at hr0
  cases hr0
 have hadd:dd ord (λσ=>den T σ (2+i)) N=((N1++M)++[⟨x.Var,y1,y2⟩],2+(N1++M).length):=by
  rw [Bo hO hN hv hd,f1,f2,e1,e2]
  simp only [mkD]
  rw [if_neg hne,hxe,if_neg hnm]
 refine ⟨hadd,?_⟩
 have s3:=q_ hO hN (hT.dep_all hO (r:=2+i) om)
 rw [hadd] at s3
 refine ⟨s3.1,?_,?_,λr y hr=>?_,λj hj=>?_⟩
 ·rw [ee,if_neg om];exact h.c0
 ·rw [ee,if_neg om];exact h.c1
 ·rw [ee] at hr
  by_cases hri:r=((2+i:Nat):Int)
  ·rw [if_pos hri] at hr
   cases hr
   subst hri
   refine ⟨by omega,by rw [Int.toNat_natCast];omega,by omega,by rw [Int.toNat_natCast];simp,λσ=>?_⟩
   rw [Int.toNat_natCast,Int.toNat_natCast]
   exact s3.2.2.2 σ
  ·rw [if_neg hri] at hr
   obtain ⟨q1,q2,q3,q4,q5⟩:=h.sound r y hr
   exact ⟨q1,q2,q3,by rw [List.length_append];omega,λσ=>by rw [f_ _ q4,q5]⟩
 ·have hlen:((N1++M)++[(⟨x.Var,y1,y2⟩:GDNode)]).length=(N1++M).length+1:=by rw [List.length_append];rfl
  rw [hlen] at hj
  by_cases hj':j<(N1++M).length
  ·obtain ⟨r,hr⟩:=h.onto j hj'
   refine ⟨r,?_⟩
   rw [ee,if_neg,hr]
   rintro rfl
   rw [hno] at hr;cases hr
  ·obtain rfl:j=(N1++M).length:=om
   exact ⟨((2+i:Nat):Int),by rw [ee,if_pos rfl]⟩
end
end Go.Gg
namespace Go.Gg
def Vd (N:List GDNode) (r:Int):Prop:=0<=r/\r.toNat<2+N.length
def dn (N:List GDNode) (r:Int) (σ:Asg):Bool:=den N σ r.toNat
def Pre (N N':List GDNode):Prop:=∃M,N'=N++M
theorem Pre.refl (N:List GDNode):Pre N N:=⟨[],by simp⟩
theorem Pre.trans {A B C:List GDNode} (h:Pre A B) (h':Pre B C):Pre A C:=let ⟨M,a⟩:=h;let ⟨M',b⟩:=h';⟨M++M',by rw [b,a,List.append_assoc]⟩
theorem Pre.len {A B:List GDNode} (h:Pre A B):A.length<=B.length:=by obtain ⟨M,rfl⟩:=h;simp
theorem Vd.pre {N N':List GDNode} {r:Int} (h:Vd N r) (hp:Pre N N'):Vd N' r:=⟨h.1,by have:=h.2;have:=hp.len;omega⟩
theorem fC {N N':List GDNode} {r:Int} (h:Vd N r) (hp:Pre N N'):dn N' r=dn N r:=by
 obtain ⟨M,rfl⟩:=hp
 funext σ
 exact f_ M h.2
theorem Pre.lvl {n:Nat} {lev:Nat->Nat} {N N':List GDNode} {r:Int} (h:Vd N r) (hp:Pre N N'):lvl n lev N' r.toNat=lvl n lev N r.toNat:=by
 obtain ⟨M,rfl⟩:=hp
 exact qB M h.2
theorem vd0 {N:List GDNode}:Vd N 0:=⟨by decide,by show 0<_;omega⟩
theorem vd1 {N:List GDNode}:Vd N 1:=⟨by decide,by show 1<_;omega⟩
theorem dn0 {N:List GDNode}:dn N 0=λ_=>false:=by funext σ;exact gu
theorem dn1 {N:List GDNode}:dn N 1=λ_=>true:=by funext σ;exact i2
structure TB (n:Nat) (lev:Nat->Nat) (nodes:List GDNode) (unique memo:GMap Int):Prop where
 wt:WT n lev nodes
 uq:∀v lo hi r,cD unique [v,lo,hi]=some r↔∃i,r=((2+i:Nat):Int)/\nodes[i]? = some ⟨v,lo,hi⟩
 me:∀c a b r,cD memo [c,a,b]=some r->(Vd nodes c/\Vd nodes a/\Vd nodes b)/\Vd nodes r/\∀σ,dn nodes r σ=bif dn nodes c σ then dn nodes a σ else dn nodes b σ
section
variable {n:Nat} {lev:Nat->Nat} {ord:List Nat} {nodes:List GDNode} {unique memo:GMap Int}
theorem TB.nil:TB n lev [] iF iF:=⟨WT.nil,λv lo hi r=>⟨λh=>by simp [qA] at h,λ⟨i,_,h⟩=>by simp at h⟩,λc a b r h=>by simp [qA] at h⟩
theorem TB.make_old (h:TB n lev nodes unique memo) {v lo hi r:Int} (hr:cD unique [v,lo,hi]=some r):Vd nodes r/\∀σ,dn nodes r σ=bif σ v.toNat then dn nodes hi σ else dn nodes lo σ:=by
 obtain ⟨i,rfl,hi'⟩:=(h.uq v lo hi r).1 hr
 have hl:=(List.getElem?_eq_some_iff.1 hi').1
 refine ⟨⟨by omega,by rw [Int.toNat_natCast];omega⟩,λσ=>?_⟩
 unfold dn
 rw [Int.toNat_natCast]
 exact h.wt.den_at hi' σ
theorem TB.make_new (h:TB n lev nodes unique memo) {v lo hi:Int} (hv:0<=v/\v<n) (hlo:Vd nodes lo) (hhi:Vd nodes hi) (hne:lo≠hi) (h1:lev v.toNat<lvl n lev nodes lo.toNat) (h2:lev v.toNat<lvl n lev nodes hi.toNat) (hno:cD unique [v,lo,hi]=none) :
  TB n lev (nodes++[⟨v,lo,hi⟩]) (mput unique [v,lo,hi] (2+nodes.length)) memo/\Vd (nodes++[⟨v,lo,hi⟩]) (2+nodes.length)/\
   ∀σ,dn (nodes++[⟨v,lo,hi⟩]) (2+nodes.length) σ=bif σ v.toNat then dn nodes hi σ else dn nodes lo σ:=by
 have hnm:(⟨v,lo,hi⟩:GDNode)∉nodes:=λhm=>by
  obtain ⟨i,hi'⟩:=List.mem_iff_getElem?.1 hm
  have:=(h.uq v lo hi _).2 ⟨i,rfl,hi'⟩
  rw [hno] at this;cases this
 have hp:Pre nodes (nodes++[⟨v,lo,hi⟩]):=⟨_,rfl⟩
 have w:=h.wt.snoc (x:=⟨v,lo,hi⟩) hv ⟨hlo.1,by have:=hlo.2;have:=hlo.1;simp only;omega⟩ ⟨hhi.1,by have:=hhi.2;have:=hhi.1;simp only;omega⟩ hne h1 h2 hnm
 have hlast:(nodes++[⟨v,lo,hi⟩])[nodes.length]? = some (⟨v,lo,hi⟩:GDNode):=by simp
 refine ⟨⟨w,λv' lo' hi' r=>?_,λc a b r hr=>?_⟩,⟨by omega,by rw [List.length_append,List.length_singleton];omega⟩,λσ=>?_⟩
 ·rw [t_]
  constructor
  ·intro hh
   by_cases he : [v',lo',hi']=[v,lo,hi]
   ·rw [if_pos he] at hh
    simp only [List.cons.injEq,and_true] at he
    obtain ⟨rfl,rfl,rfl⟩:=he
    cases hh
    exact ⟨nodes.length,by omega,hlast⟩
   ·rw [if_neg he] at hh
    obtain ⟨i,a,b⟩:=(h.uq _ _ _ _).1 hh
    exact ⟨i,a,by rw [List.getElem?_append_left (List.getElem?_eq_some_iff.1 b).1];exact b⟩
  ·rintro ⟨i,rfl,hi2⟩
   have hil:=(List.getElem?_eq_some_iff.1 hi2).1
   rw [List.length_append,List.length_singleton] at hil
   by_cases hi3:i<nodes.length
   ·rw [List.getElem?_append_left hi3] at hi2
    have:=(h.uq v' lo' hi' _).2 ⟨i,rfl,hi2⟩
    rw [if_neg,this]
    intro he
    simp only [List.cons.injEq,and_true] at he
    obtain ⟨rfl,rfl,rfl⟩:=he
    rw [hno] at this;cases this
   ·obtain rfl:i=nodes.length:=om
    rw [hlast] at hi2
    cases hi2
    rw [if_pos rfl]
    congr 1
 ·obtain ⟨⟨p1,p2,p3⟩,p4,p5⟩:=h.me c a b r hr
  exact ⟨⟨p1.pre hp,p2.pre hp,p3.pre hp⟩,p4.pre hp,λσ=>by rw [fC p4 hp,fC p1 hp,fC p2 hp,fC p3 hp];exact p5 σ⟩
 ·have:=w.den_at hlast σ
  unfold dn
  rw [show (2+(nodes.length:Int)).toNat=2+nodes.length by omega,this]
  simp only
  rw [f_ _ hlo.2,f_ _ hhi.2]
theorem TB.memo_put (h:TB n lev nodes unique memo) {c a b r:Int} (hc:Vd nodes c) (ha:Vd nodes a) (hb:Vd nodes b) (hr:Vd nodes r) (hd:∀σ,dn nodes r σ=bif dn nodes c σ then dn nodes a σ else dn nodes b σ):TB n lev nodes unique (mput memo [c,a,b] r):=by
 refine ⟨h.wt,h.uq,λc' a' b' r' hh=>?_⟩
 rw [t_] at hh
 by_cases he : [c',a',b']=[c,a,b]
 ·rw [if_pos he] at hh
  simp only [List.cons.injEq,and_true] at he
  obtain ⟨rfl,rfl,rfl⟩:=he
  cases hh
  exact ⟨⟨hc,ha,hb⟩,hr,hd⟩
 ·rw [if_neg he] at hh
  exact h.me c' a' b' r' hh
end
end Go.Gg
namespace Go.Gg
def lq (k:Int) (n:Nat):Bool:=if k=0 then decide (n=0) else if k=1 then decide (n=1) else decide (1<=n/\n<=16)
def iU (f:GFormula) (i:Nat):Int:=
 if (at' f.Nodes (i:Int)).Kind<0\/5<(at' f.Nodes (i:Int)).Kind then 7
 else if lq (at' f.Nodes (i:Int)).Kind (at' f.Nodes (i:Int)).Args.length=false then 11
 else if ∃j<(at' f.Nodes (i:Int)).Args.length,at' (at' f.Nodes (i:Int)).Args (j:Int)<0\/f.Vars+i<=at' (at' f.Nodes (i:Int)).Args (j:Int) then 10
 else if (at' f.Nodes (i:Int)).Kind=0 then (if (at' f.Nodes (i:Int)).K≠0/\(at' f.Nodes (i:Int)).K≠1 then 3 else 0)
 else if (at' f.Nodes (i:Int)).Kind=4 then (if (at' f.Nodes (i:Int)).K<1\/((at' f.Nodes (i:Int)).Args.length:Int)<(at' f.Nodes (i:Int)).K then 3 else 0)
 else if (at' f.Nodes (i:Int)).K≠0 then 2 else 0
def rh (f:GFormula) (a:Int):Bool:=decide (0<=f.Vars/\0<=a/\(a<f.Vars\/a-f.Vars<f.Nodes.length))
def jd (f:GFormula):Int:=
 if f.Vars<0\/24<f.Vars then 3 else if 128<f.Nodes.length then 4
 else if jq (iU f) f.Nodes.length≠0 then jq (iU f) f.Nodes.length
 else if rh f f.Top=false then 10 else 0
theorem yE {k:Int} {n:Nat} (h:lq k n=true):n<=16:=by
 unfold lq at h
 split at h
 ·simp at h;omega
 ·split at h
  ·simp at h;omega
  ·simp at h;omega
theorem oZ {k:Int} {n:Nat} {Q:Bool->Prop} (h:Q (lq k n)):gR k n Q:=by
 unfold lq at h
 refine bO (λhc=>?_) (λhc=>bO (λhc1=>?_) (λhc1=>condT (λh1=>?_) (λh1=>?_)))
 ·rw [if_pos hc] at h
  rw [show ((n:Int) == 0)=decide (n=0) by rw [Bool.eq_iff_iff];simp];exact h
 ·rw [if_neg hc,if_pos hc1] at h
  rw [show ((n:Int) == 1)=decide (n=1) by rw [Bool.eq_iff_iff];simp;omega];exact h
 ·rw [if_neg hc,if_neg hc1] at h
  rw [show decide ((n:Int)<=16)=decide (1<=n/\n<=16) from decide_eq_decide.2 om];exact h
 ·rw [if_neg hc,if_neg hc1,decide_eq_false om] at h;exact h
theorem oY {f:GFormula} {i:Nat} {Q:Option Int->Prop} (hi:i<f.Nodes.length) (hV:0<=f.Vars/\f.Vars<=24) (hn:f.Nodes.length<=128) (h:Q (ly (iU f i))):gQ f i Q:=by
 unfold iU at h
 refine ⟨⟨by omega,by omega⟩,λy=>y=decide ((at' f.Nodes (i:Int)).Kind<0\/5<(at' f.Nodes (i:Int)).Kind),?_,?_⟩
 ·exact condT (λhc=>(decide_eq_true (Or.inl hc)).symm) (λhc=>decide_eq_decide.2 ⟨Or.inr,λhh=>hh.resolve_left hc⟩)
 rintro _ rfl
 refine condT (λhc=>?_) (λhc=>?_)
 ·rw [if_pos hc] at h;exact h
 rw [if_neg hc] at h
 refine oZ (bg (λhb=>?_) (λhb=>?_))
 ·rw [if_pos (by simpa using hb)] at h;exact h
 simp only [Bool.not_eq_false'] at hb
 rw [if_neg (by rw [hb];simp)] at h
 have hl:=yE hb
 refine kM (λj=>at' (at' f.Nodes (i:Int)).Args (j:Int)<0\/f.Vars+i<=at' (at' f.Nodes (i:Int)).Args (j:Int)) om (λj next hj hI hnx=>?_) (λhall=>?_)
 ·refine ⟨⟨by omega,by omega⟩,λy=>y=decide (at' (at' f.Nodes (i:Int)).Args (j:Int)<0\/f.Vars+i<=at' (at' f.Nodes (i:Int)).Args (j:Int)),?_,?_⟩
  ·exact condT (λhc2=>(decide_eq_true (Or.inl hc2)).symm) (λhc2=>⟨by unfold rng;omega,decide_eq_decide.2 ⟨Or.inr,λhh=>hh.resolve_left hc2⟩⟩)
  ·rintro _ rfl
   refine condT (λhb2=>?_) (λhb2=>hnx hb2)
   rw [if_pos ⟨j,hj,hb2⟩] at h;exact h
 rw [if_neg (by rintro ⟨j,hj,hb2⟩;exact hall j hj hb2)] at h
 refine bO (λh0=>?_) (λh0=>?_)
 ·rw [if_pos h0] at h
  refine ⟨λy=>y=decide ((at' f.Nodes (i:Int)).K≠0/\(at' f.Nodes (i:Int)).K≠1),?_,?_⟩
  ·refine fl (λhk=>?_) (λhk=>?_)
   ·show ((at' f.Nodes (i:Int)).K != 1)=_
    rw [Bool.eq_iff_iff];simp [hk]
   ·rw [decide_eq_false (λhh=>hh.1 hk)]
  ·rintro _ rfl
   refine condT (λhk=>?_) (λhk=>?_)
   ·rw [if_pos hk] at h;exact h
   ·rw [if_neg hk] at h;exact h
 rw [if_neg h0] at h
 refine bO (λh4=>?_) (λh4=>?_)
 ·rw [if_pos h4] at h
  refine ⟨λy=>y=decide ((at' f.Nodes (i:Int)).K<1\/((at' f.Nodes (i:Int)).Args.length:Int)<(at' f.Nodes (i:Int)).K),?_,?_⟩
  ·exact condT (λhk=>(decide_eq_true (Or.inl hk)).symm) (λhk=>decide_eq_decide.2 ⟨Or.inr,λhh=>hh.resolve_left hk⟩)
  ·rintro _ rfl
   refine condT (λhk=>?_) (λhk=>?_)
   ·rw [if_pos hk] at h;exact h
   ·rw [if_neg hk] at h;exact h
 rw [if_neg h4] at h
 refine fl (λhk=>?_) (λhk=>?_)
 ·rw [if_pos hk] at h;exact h
 ·rw [if_neg (λhh=>hh hk)] at h;exact h
theorem wp {f:GFormula} {i:Nat} {Q:Int->Prop} (hi:i<f.Nodes.length) (hV:0<=f.Vars/\f.Vars<=24) (hn:f.Nodes.length<=128) (h:Q (iU f i)):mZ f i Q:=by
 unfold iU at h
 have hf7:((at' f.Nodes (i:Int)).Kind≠0/\(at' f.Nodes (i:Int)).Kind≠1/\(at' f.Nodes (i:Int)).Kind≠2/\(at' f.Nodes (i:Int)).Kind≠3/\(at' f.Nodes (i:Int)).Kind≠4/\(at' f.Nodes (i:Int)).Kind≠5)->Q 7:=λhh=>by
  rw [if_pos om] at h;exact h
 refine ⟨⟨by omega,by omega⟩,λy=>(0<=(at' f.Nodes (i:Int)).Kind/\(at' f.Nodes (i:Int)).Kind<=5)/\(0<=y.1/\y.1<=1/\0<=y.2/\y.2<=16)/\∀n:Nat,lq (at' f.Nodes (i:Int)).Kind n=decide (y.1<=n/\(n:Int)<=y.2),?_,?_⟩
 ·have hbig:∀n:Nat,(at' f.Nodes (i:Int)).Kind≠0->(at' f.Nodes (i:Int)).Kind≠1->lq (at' f.Nodes (i:Int)).Kind n=decide ((1:Int)<=n/\(n:Int)<=16):=λn h0 h1=>by
   rw [lq,if_neg h0,if_neg h1];exact decide_eq_decide.2 om
  refine bO (λh0:(at' f.Nodes (i:Int)).Kind=0=>⟨by omega,by decide,λn=>by rw [lq,if_pos h0];exact decide_eq_decide.2 (by dsimp only;omega)⟩) (λh0=>bO (λh1:(at' f.Nodes (i:Int)).Kind=1=>⟨by omega,by decide,λn=>by rw [lq,if_neg h0,if_pos h1];exact decide_eq_decide.2 (by dsimp only;omega)⟩) (λh1=>?_))
  exact bO (λh2:(at' f.Nodes (i:Int)).Kind=2=>⟨by omega,by decide,λn=>hbig n h0 h1⟩) (λh2=>bO (λh3:(at' f.Nodes (i:Int)).Kind=3=>⟨by omega,by decide,λn=>hbig n h0 h1⟩) (λh3=>bO (λh4:(at' f.Nodes (i:Int)).Kind=4=>⟨by omega,by decide,λn=>hbig n h0 h1⟩) (λh4=>bO (λh5:(at' f.Nodes (i:Int)).Kind=5=>⟨by omega,by decide,λn=>hbig n h0 h1⟩) (λh5=>hf7 ⟨h0,h1,h2,h3,h4,h5⟩))))
 rintro ⟨lo,hi2⟩ ⟨hkind,hb,hargs⟩
 dsimp only at hb hargs
 rw [if_neg om] at h
 refine condT (λ(hc:((at' f.Nodes (i:Int)).Args.length:Int)<lo)=>?_) (λ(hc:¬((at' f.Nodes (i:Int)).Args.length:Int)<lo)=>condT (λ(hc2:hi2<((at' f.Nodes (i:Int)).Args.length:Int))=>?_) (λ(hc2:¬hi2<((at' f.Nodes (i:Int)).Args.length:Int))=>?_))
 ·rw [if_pos (by rw [hargs];exact decide_eq_false om)] at h;exact h
 ·rw [if_pos (by rw [hargs];exact decide_eq_false om)] at h;exact h
 rw [if_neg (by rw [hargs,decide_eq_true om];simp)] at h
 refine kM (n:=(at' f.Nodes (i:Int)).Args.length) (λj=>at' (at' f.Nodes (i:Int)).Args (j:Int)<0\/f.Vars+i<=at' (at' f.Nodes (i:Int)).Args (j:Int)) om (λj next hj hI hnx=>?_) (λhall=>?_)
 ·refine ⟨⟨by omega,show (j:Int)<((at' f.Nodes (i:Int)).Args.length:Int) by omega⟩,condT (λhc3=>?_) (λhc3=>⟨by unfold rng;omega,condT (λhc4=>?_) (λhc4=>hnx (by rw [not_or];exact ⟨hc3,hc4⟩))⟩)⟩
  ·rw [if_pos ⟨j,hj,Or.inl hc3⟩] at h;exact h
  ·rw [if_pos ⟨j,hj,Or.inr hc4⟩] at h;exact h
 rw [if_neg (by rintro ⟨j,hj,hb2⟩;exact hall j hj hb2)] at h
 refine bO (λh0=>?_) (λh0=>?_)
 ·rw [if_pos h0] at h
  refine fl (λhk=>fl (λhk1=>?_) (λhk1=>?_)) (λhk=>?_)
  ·rw [if_pos ⟨hk,hk1⟩] at h;exact h
  ·rw [if_neg (λhh=>hh.2 hk1)] at h;exact h
  ·rw [if_neg (λhh=>hh.1 hk)] at h;exact h
 rw [if_neg h0] at h
 refine bO (λh4=>?_) (λh4=>?_)
 ·rw [if_pos h4] at h
  refine condT (λhk=>?_) (λhk=>condT (λhk2=>?_) (λhk2=>?_))
  ·rw [if_pos (Or.inl hk)] at h;exact h
  ·rw [if_pos (Or.inr hk2)] at h;exact h
  ·rw [if_neg (by rw [not_or];exact ⟨hk,hk2⟩)] at h;exact h
 rw [if_neg h4] at h
 refine fl (λhk=>?_) (λhk=>?_)
 ·rw [if_pos hk] at h;exact h
 ·rw [if_neg (λhh=>hh hk)] at h;exact h
theorem nH {f:GFormula} {a:Int} {Q:Bool->Prop} (ha:rng a) (h:Q (rh f a)):j5 f a Q:=by
 unfold rh at h
 unfold rng at ha
 refine condT (λh1=>condT (λh2=>condT (λh3=>?_) (λh3=>⟨by unfold rng;omega,?_⟩)) (λh2=>?_)) (λh1=>?_)
 ·rw [decide_eq_true ⟨h1,h2,Or.inl h3⟩] at h;exact h
 ·rw [show decide (a-f.Vars<(f.Nodes.length:Int))=decide (0<=f.Vars/\0<=a/\(a<f.Vars\/a-f.Vars<f.Nodes.length)) from decide_eq_decide.2 om];exact h
 ·rw [decide_eq_false (λhh=>h2 hh.2.1)] at h;exact h
 ·rw [decide_eq_false (λhh=>h1 hh.1)] at h;exact h
theorem uU {f:GFormula} {a:Int} {Q:Bool->Prop} (ha:rng a) (h:Q (rh f a)):l9 f a Q:=nH ha h
theorem dD {e:Int}:(ly e).isSome=decide (e≠0):=by
 unfold ly
 by_cases h:e=0
 ·rw [if_pos h,decide_eq_false (λhh=>hh h)];rfl
 ·rw [if_neg h,decide_eq_true h];rfl
theorem eO {f:GFormula} {Q:Option Int->Prop} (ht:rng f.Top) (h:Q (ly (jd f))):da f Q:=by
 unfold jd at h
 refine ⟨λy=>y=decide (f.Vars<0\/24<f.Vars),?_,?_⟩
 ·exact condT (λhc=>(decide_eq_true (Or.inl hc)).symm) (λhc=>decide_eq_decide.2 ⟨Or.inr,λhh=>hh.resolve_left hc⟩)
 rintro _ rfl
 refine condT (λhc=>?_) (λhc=>?_)
 ·rw [if_pos hc] at h;exact h
 rw [if_neg hc] at h
 refine condT (λhc2=>?_) (λhc2=>?_)
 ·rw [if_pos om] at h;exact h
 rw [if_neg om] at h
 refine kM (λi=>iU f i≠0) om (λi next hi hI hnx=>?_) (λhall=>?_)
 ·refine oY hi om om ?_
  rw [dD]
  refine condT (λhe=>?_) (λhe=>hnx he)
  rw [gt (λj hj=>Decidable.not_not.1 (hI j hj)) he _ hi,if_pos he] at h
  exact h
 ·rw [if_neg (λhh=>hh (b9.2 λj hj=>Decidable.not_not.1 (hall j hj)))] at h
  refine nH ht (bg (λhb=>?_) (λhb=>?_))
  ·rw [if_pos (by simpa using hb)] at h;exact h
  ·rw [if_neg (by simpa using hb)] at h;exact h
theorem uV {f:GFormula} {Q:Int->Prop} (ht:rng f.Top) (h:Q (jd f)):l_ f Q:=by
 unfold jd at h
 refine condT (λhc=>?_) (λhc=>condT (λhc1=>?_) (λhc1=>?_))
 ·rw [if_pos (Or.inl hc)] at h;exact h
 ·rw [if_pos (Or.inr hc1)] at h;exact h
 rw [if_neg om] at h
 refine condT (λhc2=>?_) (λhc2=>?_)
 ·rw [if_pos om] at h;exact h
 rw [if_neg om] at h
 refine kM (λi=>iU f i≠0) om (λi next hi hI hnx=>?_) (λhall=>?_)
 ·refine wp hi om om (fl (λhe=>?_) (λhe=>hnx (λhh=>hh he)))
  rw [gt (λj hj=>Decidable.not_not.1 (hI j hj)) he _ hi,if_pos he] at h
  exact h
 ·rw [if_neg (λhh=>hh (b9.2 λj hj=>Decidable.not_not.1 (hall j hj)))] at h
  refine uU ht (bg (λhb=>?_) (λhb=>?_))
  ·rw [if_pos (by simpa using hb)] at h;exact h
  ·rw [if_neg (by simpa using hb)] at h;exact h
structure FG (f:GFormula):Prop where
 v0:0<=f.Vars
 v24:f.Vars<=24
 n128:f.Nodes.length<=128
 node:∀i,i<f.Nodes.length->iU f i=0
 top0:0<=f.Top
 top:f.Top<f.Vars+f.Nodes.length
theorem jv {f:GFormula}:jd f=0↔FG f:=by
 unfold jd
 constructor
 ·intro h
  split at h
  ·cases h
  split at h
  ·cases h
  split at h
  ·rename_i h3;exact absurd h h3
  split at h
  ·cases h
  rename_i h1 h2 h3 h4
  rw [Decidable.not_not] at h3
  have h5:=b9.1 h3
  simp only [rh,Bool.not_eq_false,decide_eq_true_eq] at h4
  exact ⟨by omega,by omega,by omega,h5,by omega,by omega⟩
 ·intro h
  rw [if_neg (by have:=h.v0;have:=h.v24;omega),if_neg (by have:=h.n128;omega),if_neg (λhh=>hh (b9.2 h.node)),if_neg]
  have:=h.v0;have:=h.top0;have:=h.top
  simp only [rh,Bool.not_eq_false,decide_eq_true_eq]
  omega
structure NG (f:GFormula) (i:Nat):Prop where
 k0:0<=(at' f.Nodes (i:Int)).Kind
 k5:(at' f.Nodes (i:Int)).Kind<=5
 len:(at' f.Nodes (i:Int)).Args.length<=16
 arg:∀j:Nat,j<(at' f.Nodes (i:Int)).Args.length->0<=at' (at' f.Nodes (i:Int)).Args (j:Int)/\at' (at' f.Nodes (i:Int)).Args (j:Int)<f.Vars+i
 args:lq (at' f.Nodes (i:Int)).Kind (at' f.Nodes (i:Int)).Args.length=true
theorem fh {f:GFormula} {i:Nat} (h:iU f i=0):NG f i:=by
 unfold iU at h
 split at h
 ·cases h
 split at h
 ·cases h
 split at h
 ·cases h
 rename_i h1 h2 h3
 refine ⟨by omega,by omega,yE (by simpa using h2),λj hj=>?_,by simpa using h2⟩
 rw [not_exists] at h3
 have:=h3 j
 simp only [hj,true_and,not_or] at this
 omega
end Go.Gg
namespace Go.Gg
theorem zs {y:Int} (h0:0<=y) (h1:y<4294967296):bits .and .i64 y 1=y % 2:=by
 obtain ⟨m,rfl⟩:=Int.eq_ofNat_of_zero_le h0
 show IntKind.i64.wrap (((BitVec.ofInt 64 (m:Int)) &&& (BitVec.ofInt 64 1)).toNat:Int)=_
 rw [BitVec.toNat_and,BitVec.toNat_ofInt,BitVec.toNat_ofInt]
 have e1:((m:Int) % ((2^64:Nat):Int)).toNat=m:=om
 have e2:((1:Int) % ((2^64:Nat):Int)).toNat=1:=om
 rw [e1,e2,Nat.and_one_is_mod]
 have e3:m % 2=0\/m % 2=1:=om
 have e4:(m:Int) % 2=((m % 2:Nat):Int):=om
 rw [e4]
 rcases e3 with e | e<;>rw [e]<;>rfl
def inS (s i:Nat):Bool:=decide (s / 2^i % 2=1)
theorem F8 {s k:Nat} (hx:s<4294967296):(bits .and .i64 ((s:Int) / 2^(Int.toNat (k:Int))) 1 == 1)=inS s k:=by
 have e:((s:Int) / 2^(Int.toNat (k:Int)))=((s / 2^k:Nat):Int):=by rw [Int.toNat_natCast];simp
 have:=Nat.div_le_self s (2^k)
 unfold inS
 rw [e]
 generalize s / 2^k=z at this
 rw [zs om om,Bool.eq_iff_iff]
 simp only [beq_iff_eq,decide_eq_true_eq]
 omega
def cnt (x:GNode) (v:List Bool):Nat->Nat
 | 0=>0
 | j+1=>cnt x v j+(if at' v (at' x.Args (j:Int))=true then 1 else 0)
def mG (x:GNode) (n:Nat):Bool:=
 if x.Kind=0 then x.K == 1 else if x.Kind=1 then (n:Int) == 0 else if x.Kind=2 then (n:Int) == (x.Args.length:Int) else if x.Kind=3 then decide ((0:Int)<n)
 else if x.Kind=4 then decide (x.K<=n) else Int.tmod n 2 == 1
def gn (x:GNode) (v:List Bool):Bool:=mG x (cnt x v x.Args.length)
def cq (f:GFormula) (s:Nat):Nat->List Bool
 | 0=>(List.range f.Vars.toNat).map (inS s)
 | i+1=>cq f s i++[gn (at' f.Nodes (i:Int)) (cq f s i)]
def FV (f:GFormula) (s:Nat):Bool:=at' (cq f s f.Nodes.length) f.Top
theorem jG {f:GFormula} {s:Nat}:∀i,(cq f s i).length=f.Vars.toNat+i
 | 0=>by simp [cq]
 | i+1=>by rw [cq,List.length_append,jG i];simp;omega
theorem dE {α:Type} [Inhabited α] {l m:List α} {i:Int} (h0:0<=i) (h:i<l.length):at' (l++m) i=at' l i:=by
 obtain ⟨k,rfl⟩:=Int.eq_ofNat_of_zero_le h0
 have:k<l.length:=om
 simp [at',List.getD_eq_getElem?_getD,List.getElem?_append,this]
theorem gz {α:Type} [Inhabited α] {l:List α} {x:α}:at' (l++[x]) (l.length:Int)=x:=by
 simp [at',List.getD_eq_getElem?_getD]
theorem iG {f:GFormula} {s m:Nat} {a:Int} (h0:0<=a) (h:a<f.Vars.toNat+m):∀n,m<=n->at' (cq f s n) a=at' (cq f s m) a
 | 0,hn=>by
        obtain rfl:m=0:=om
        rfl
 | n+1,hn=>by
  rcases Nat.lt_or_ge n m with h1 | h1
  ·obtain rfl:m=n+1:=om
   rfl
  ·rw [cq,dE h0 (by rw [jG];omega),iG h0 h n h1]
theorem zp {x:GNode} {v:List Bool}:∀j,cnt x v j<=j
 | 0=>Nat.le_refl _
 | j+1=>by have:=zp (x:=x) (v:=v) j;rw [cnt];split<;>omega
theorem gy {α:Type} [Inhabited α] {l:List α} {i:Nat} {x:α} {j:Nat} (h:i<l.length):at' (bq l (i:Int) x) (j:Int)=if j=i then x else at' l (j:Int):=by
 simp only [at',bq,Int.toNat_natCast,List.getD_eq_getElem?_getD,List.getElem?_set]
 by_cases hij:i=j
 ·subst hij;simp [h]
 ·rw [if_neg hij,if_neg (λe=>hij e.symm)]
theorem dJ {α:Type} {l:List α} {i:Int} {x:α}:(bq l i x).length=l.length:=by simp [bq]
theorem rI {f:GFormula} {s:Nat} {Q:List Bool->Prop} (g:FG f) (hs:s<4294967296) (h:Q (cq f s f.Nodes.length)):jp f s Q:=by
 have v0:=g.v0
 have v24:=g.v24
 have n128:=g.n128
 refine ⟨by unfold rng;omega,⟨by omega,by omega,by omega,by omega⟩,?_⟩
 refine dO (n:=f.Vars.toNat) (λi y=>y.1=(i:Int)/\y.2.length=f.Vars.toNat/\∀j,j<i->at' y.2 (j:Int)=inS s j) (λy=>y.1) 0 (λi y hy=>by rw [hy.1];omega) ⟨rfl,by simp [bu],λj hj=>absurd hj om⟩ ?_ ?_
 ·rintro i ⟨x,v⟩ next hi ⟨rfl,hl,hI⟩ hn
  dsimp only at hl hI
  refine condT (λhc=>⟨⟨by omega,by omega⟩,⟨by omega,by omega⟩,by unfold rng;omega,hn _ ⟨rfl,by rw [dJ];exact hl,λj hj=>?_⟩⟩) (λhc=>absurd (show (i:Int)<(f.Vars.toNat:Int) by omega) hc)
  dsimp only
  rw [gy om]
  by_cases hji:j=i
  ·rw [if_pos hji,F8 hs,hji]
  ·rw [if_neg hji];exact hI j om
 ·rintro ⟨x,v⟩ next ⟨rfl,hl,hI⟩
  dsimp only at hl hI
  refine condT (λhc=>absurd hc om) (λ_=>?_)
  have hv:v=cq f s 0:=by
   refine sr (by rw [jG];omega) λj hj=>?_
   rw [hI j om]
   show _=at' ((List.range f.Vars.toNat).map (inS s)) (j:Int)
   simp [at',List.getD_eq_getElem?_getD,show j<f.Vars.toNat by omega]
  rw [hv]
  refine eI (n:=f.Nodes.length) (λi=>((i:Int),cq f s i)) (λy=>y.1) 0 (λi=>om) rfl ?_ ?_
  ·intro i next hi hn
   have N:=fh (g.node i hi)
   have hlen:=N.len
   refine condT (λhc=>⟨⟨by omega,by omega⟩,?_⟩) (λhc=>absurd (show (i:Int)<(f.Nodes.length:Int) by omega) hc)
   refine eI (n:=(at' f.Nodes (i:Int)).Args.length) (λj=>((cnt (at' f.Nodes (i:Int)) (cq f s i) j:Int),(j:Int))) (λy=>y.2) 0 (λj=>om) rfl ?_ ?_
   ·intro j next2 hj hn2
    have ha:=N.arg j hj
    have hcl:=zp (x:=at' f.Nodes (i:Int)) (v:=cq f s i) j
    refine condT (λhc=>⟨⟨by omega,by omega⟩,⟨ha.1,by rw [jG];omega⟩,bg (λhb=>⟨by unfold rng;omega,by unfold rng;omega,?_⟩) (λhb=>⟨by unfold rng;omega,?_⟩)⟩) (λhc=>absurd (show (j:Int)<((at' f.Nodes (i:Int)).Args.length:Int) by omega) hc)
    ·rw [cnt,if_pos hb] at hn2;exact hn2
    ·rw [cnt,if_neg (by rw [hb];simp)] at hn2;exact hn2
   ·intro next2
    refine condT (λhc=>absurd hc om) (λ_=>?_)
    refine ⟨λy=>y=gn (at' f.Nodes (i:Int)) (cq f s i),?_,?_⟩
    ·have k5:=N.k5
     have k0:=N.k0
     unfold gn mG
     refine bO (λh0=>by rw [if_pos h0]) (λh0=>bO (λh1=>by rw [if_neg h0,if_pos h1]) (λh1=>bO (λh2=>by rw [if_neg h0,if_neg h1,if_pos h2]) (λh2=>bO (λh3=>by rw [if_neg h0,if_neg h1,if_neg h2,if_pos h3]) (λh3=>bO (λh4=>by rw [if_neg h0,if_neg h1,if_neg h2,if_neg h3,if_pos h4]) (λh4=>bO (λh5=>by rw [if_neg h0,if_neg h1,if_neg h2,if_neg h3,if_neg h4]) (λh5=>?_))))))
     exact absurd (show (at' f.Nodes (i:Int)).Kind=0\/(at' f.Nodes (i:Int)).Kind=1\/(at' f.Nodes (i:Int)).Kind=2\/(at' f.Nodes (i:Int)).Kind=3\/(at' f.Nodes (i:Int)).Kind=4\/(at' f.Nodes (i:Int)).Kind=5 by omega) (by
      rintro (hh | hh | hh | hh | hh | hh)
      ·exact h0 hh
      ·exact h1 hh
      ·exact h2 hh
      ·exact h3 hh
      ·exact h4 hh
      ·exact h5 hh)
    ·rintro _ rfl
     refine ⟨?_,by unfold rng;omega,hn⟩
     rw [List.length_append,jG,List.length_singleton]
     omega
  ·intro next
   exact condT (λhc=>absurd hc om) (λ_=>h)
theorem Ch {n:Nat} (h:n<=24):2^n<=16777216:=Nat.le_trans (Nat.pow_le_pow_right om h) (by decide)
def vt (f:GFormula) (s:Int):Int:=if jd f≠0 then jd f else if s<0\/(2^f.Vars.toNat:Int)<=s then 3 else 0
theorem sU {f:GFormula} {s:Int} {Q:Option Int->Prop} (ht:rng f.Top) (h:Q (ly (vt f s))):j3 f s Q:=by
 unfold vt at h
 refine eO ht ?_
 rw [dD]
 refine condT (λhc=>?_) (λhc=>?_)
 ·rw [if_pos hc] at h;exact h
 rw [if_neg hc] at h
 have g:=jv.1 (Decidable.not_not.1 hc)
 have v0:=g.v0
 have v24:=g.v24
 refine ⟨λy=>y=decide (s<0\/(2^f.Vars.toNat:Int)<=s),?_,?_⟩
 ·refine condT (λhc=>(decide_eq_true (Or.inl hc)).symm) (λhc=>⟨⟨⟨by omega,by omega⟩,?_⟩,?_⟩)
  ·have:=Ch (n:=f.Vars.toNat) om
   have e:(2^f.Vars.toNat:Int)=((2^f.Vars.toNat:Nat):Int):=by simp
   rw [Int.one_mul,e]
   generalize 2^f.Vars.toNat=z at this
   unfold rng;omega
  ·rw [Int.one_mul]
   exact decide_eq_decide.2 ⟨Or.inr,λhh=>hh.resolve_left hc⟩
 ·rintro _ rfl
  refine condT (λhc2=>?_) (λhc2=>?_)
  ·rw [if_pos hc2] at h;exact h
  ·rw [if_neg hc2] at h;exact h
theorem sV {f:GFormula} {s:Int} {Q:Bool->Option Int->Prop} (ht:rng f.Top) (h1:vt f s≠0->Q false (some (vt f s))) (h2:vt f s=0->Q (FV f s.toNat) none):j4 f s Q:=by
 refine sU ht ?_
 rw [dD]
 refine condT (λhc=>?_) (λhc=>?_)
 ·rw [show ly (vt f s)=some (vt f s) from if_neg hc];exact h1 hc
 ·have h3:=h2 (Decidable.not_not.1 hc)
  unfold vt at hc
  by_cases hm:jd f≠0
  ·rw [if_pos hm] at hc;exact absurd hm hc
  rw [if_neg hm] at hc
  have g:=jv.1 (Decidable.not_not.1 hm)
  have v0:=g.v0
  have v24:=g.v24
  have hs:0<=s/\s<(2^f.Vars.toNat:Int):=by
   by_cases hh:s<0\/(2^f.Vars.toNat:Int)<=s
   ·rw [if_pos hh] at hc;exact absurd (by decide) hc
   ·rw [not_or] at hh;exact ⟨by omega,by omega⟩
  obtain ⟨k,rfl⟩:=Int.eq_ofNat_of_zero_le hs.1
  have hp:=Ch (n:=f.Vars.toNat) om
  have hk:k<2^f.Vars.toNat:=by
   have:=hs.2
   exact_mod_cast this
  refine ⟨_,rI g om rfl,⟨⟨g.top0,by rw [jG];have:=g.top;omega⟩,h3⟩⟩
end Go.Gg
namespace Go.Gg
theorem vY {x:GNode} {v w:List Bool}:∀j,(∀k:Nat,k<j->at' v (at' x.Args (k:Int))=at' w (at' x.Args (k:Int)))->cnt x v j=cnt x w j
 | 0,_=>rfl
 | j+1,h=>by rw [cnt,cnt,vY j (λk hk=>h k om),h j om]
theorem mq {f:GFormula} {s i:Nat} (v0:0<=f.Vars) (h:i<f.Nodes.length):at' (cq f s f.Nodes.length) (f.Vars+i)=gn (at' f.Nodes (i:Int)) (cq f s i):=by
 rw [iG (m:=i+1) om om _ om,cq]
 have e:f.Vars+(i:Int)=((cq f s i).length:Int):=by rw [jG];omega
 rw [e,gz]
theorem gS {f:GFormula} {s:Nat} {a:Int} (h0:0<=a) (h:a<f.Vars) (n:Nat):at' (cq f s n) a=inS s a.toNat:=by
 rw [iG (m:=0) h0 om n om]
 obtain ⟨k,rfl⟩:=Int.eq_ofNat_of_zero_le h0
 show at' ((List.range f.Vars.toNat).map (inS s)) (k:Int)=_
 simp [at',List.getD_eq_getElem?_getD,show k<f.Vars.toNat by omega]
end Go.Gg
namespace Go.Gg
def plE (o:List Int) (n:Int) (i:Nat):Int:=
 if at' o (i:Int)<0\/n<=at' o (i:Int) then 3 else if ∃k<i,at' o (k:Int)=at' o (i:Int) then 6 else 0
def sN (o:List Int) (n:Int):Int:=if n<0\/24<n then 3 else if (o.length:Int)≠n then 11 else jq (plE o n) o.length
theorem ve {o:List Int} {n:Int} {Q:Option Int->Prop} (h:Q (ly (sN o n))):mh o n Q:=by
 unfold sN at h
 refine ⟨λb=>b=decide (n<0\/24<n),condT (λh0=>?_) (λh0=>?_),λb hb=>?_⟩
 ·rw [decide_eq_true (.inl h0)]
 ·exact decide_eq_decide.2 om
 subst hb
 refine condT (λh0=>?_) (λh0=>fl (λh2=>?_) (λh2=>?_))
 ·rw [if_pos h0] at h;exact h
 ·rw [if_neg h0,if_pos h2] at h;exact h
 ·rw [if_neg h0,if_neg om] at h
  subst h2
  refine ⟨⟨by omega,by omega,by omega⟩,?_⟩
  refine dO (n:=o.length) (λi y=>(y.1=(i:Int)/\∀j,j<i->plE o o.length j=0)/\y.2.length=o.length/\∀v:Nat,v<o.length->(at' y.2 (v:Int)=true↔∃k<i,at' o (k:Int)=(v:Int))) (λy=>y.1) 0
   (λi y hy=>by rw [hy.1.1];omega) ⟨⟨rfl,λj hj=>absurd hj om⟩,by simp [bu],λv hv=>?_⟩ ?_ ?_
  ·constructor
   ·intro hb
    simp [at',bu,List.getD_eq_getElem?_getD,hv] at hb
   ·rintro ⟨k,hk,_⟩;omega
  ·rintro i ⟨x,seen⟩ next hi ⟨⟨hx,hz⟩,hl,hs⟩ hn
   dsimp only at hx hl hs
   subst hx
   have hit:∀e,plE o o.length i=e->e≠0->Q (ly e):=λe he hne=>by
    have:=gt hz (by rw [he];exact hne) o.length hi
    rw [this,he] at h
    exact h
   refine condT (λ_=>⟨⟨by omega,by omega⟩,λb=>b=decide (at' o (i:Int)<0\/(o.length:Int)<=at' o (i:Int)),condT (λh3=>?_) (λh3=>?_),λb hb=>?_⟩) (λhc=>absurd (show (i:Int)<o.length by omega) hc)
   ·rw [decide_eq_true (.inl h3)]
   ·exact decide_eq_decide.2 om
   subst hb
   refine condT (λh3=>hit 3 (by rw [plE,if_pos h3]) (by decide)) (λh3=>⟨by omega,?_⟩)
   obtain ⟨v,hv⟩:∃v:Nat,at' o (i:Int)=v:=⟨(at' o (i:Int)).toNat,by omega⟩
   have hvl:v<o.length:=om
   rw [hv]
   have hsv:=hs v hvl
   refine bg (λh4=>hit 6 (by rw [plE,if_neg h3,hv,if_pos (hsv.1 h4)]) (by decide)) (λh4=>⟨by omega,by unfold rng;omega,hn _ ⟨⟨by dsimp only;omega,λj hj=>?_⟩,by dsimp only;rw [dJ];exact hl,λu hu=>?_⟩⟩)
   ·rcases Nat.lt_or_ge j i with h5 | h5
    ·exact hz j h5
    ·obtain rfl:j=i:=om
     rw [plE,if_neg h3,hv,if_neg (λhc=>by rw [hsv.2 hc] at h4;cases h4)]
   ·dsimp only
    rw [gy om]
    split
    ·rename_i he
     subst he
     exact ⟨λ_=>⟨i,by omega,hv⟩,λ_=>rfl⟩
    ·rename_i he
     rw [hs u hu]
     constructor
     ·rintro ⟨k,hk,hk'⟩;exact ⟨k,by omega,hk'⟩
     ·rintro ⟨k,hk,hk'⟩
      rcases Nat.lt_or_ge k i with h5 | h5
      ·exact ⟨k,h5,hk'⟩
      ·obtain rfl:k=i:=om
       omega
  ·rintro ⟨x,seen⟩ next ⟨⟨hx,hz⟩,_⟩
   dsimp only at hx
   subst hx
   refine condT (λhc=>absurd hc om) (λ_=>?_)
   rw [b9.2 hz] at h
   exact h
structure Or14 (o:List Int):Prop where
 le:o.length<=24
 rg:∀i:Nat,i<o.length->0<=at' o (i:Int)/\at' o (i:Int)<o.length
 inj:∀i j:Nat,i<o.length->j<o.length->at' o (i:Int)=at' o (j:Int)->i=j
theorem AZ {o:List Int} (h:sN o o.length=0):Or14 o:=by
 unfold sN at h
 split at h
 ·cases h
 ·rw [if_neg (by simp)] at h
  have hz:=b9.1 h
  have hp:∀i,i<o.length->(0<=at' o (i:Int)/\at' o (i:Int)<o.length)/\∀k,k<i->at' o (k:Int)≠at' o (i:Int):=λi hi=>by
   have:=hz i hi
   unfold plE at this
   split at this
   ·cases this
   ·split at this
    ·cases this
    ·rename_i h1 h2;exact ⟨by omega,λk hk he=>h2 ⟨k,hk,he⟩⟩
  refine ⟨by omega,λi hi=>(hp i hi).1,λi j hi hj he=>?_⟩
  rcases Nat.lt_trichotomy i j with h1 | h1 | h1
  ·exact absurd he ((hp j hj).2 i h1)
  ·exact h1
  ·exact absurd he.symm ((hp i hi).2 j h1)
theorem DP {o:List Int} (h:Or14 o):sN o o.length=0:=by
 have:=h.le
 unfold sN
 rw [if_neg om,if_neg (by simp)]
 refine b9.2 λi hi=>?_
 have:=h.rg i hi
 rw [plE,if_neg om,if_neg (λ⟨k,hk,he⟩=>by have:=h.inj k i om hi he;omega)]
theorem n8:∀(m:Nat) (l:List Nat),l.Nodup->(∀x∈l,x<m)->l.length<=m
 | 0,l,_,h=>by
  cases l with
  | nil=>simp
  | cons x l=>have:=h x (by simp);omega
 | m+1,l,hd,h=>by
  by_cases hm:m∈l
  ·have h1:=n8 m (l.erase m) (hd.erase m) (λx hx=>by
    have h2:=h x (List.mem_of_mem_erase hx)
    have h3:x≠m:=λhe=>by subst he;exact (hd.not_mem_erase) hx
    omega)
   have:=List.length_erase_of_mem hm
   omega
  ·have:=n8 m l hd (λx hx=>by
    have h2:=h x hx
    have h3:x≠m:=λhe=>hm (he▸hx)
    omega)
   omega
theorem A4 {l:List Nat} (hd:l.Nodup) (h:∀x∈l,x<l.length) {v:Nat} (hv:v<l.length):v∈l:=by
 by_cases hm:v∈l
 ·exact hm
 ·exfalso
  have h1:=n8 l.length (v :: l) (List.nodup_cons.2 ⟨hm,hd⟩) (λx hx=>by
   rcases List.mem_cons.1 hx with rfl | hx
   ·exact hv
   ·exact h x hx)
  simp at h1
  omega
def jb (o:List Int):List Nat:=o.map Int.toNat
def dc (o:List Int):Nat->Nat:=λv=>(jb o).idxOf v
section
variable {o:List Int}
theorem go:(jb o).length=o.length:=by simp [jb]
theorem nc {i:Nat} (h:i<o.length):(jb o)[i]? = some (at' o (i:Int)).toNat:=by
 simp [jb,at',List.getD_eq_getElem?_getD,List.getElem?_eq_getElem h]
theorem Or14.nodup (h:Or14 o):(jb o).Nodup:=by
 rw [List.Nodup,List.pairwise_iff_getElem]
 intro i j hi hj hij he
 rw [go] at hi hj
 have h1:=nc hi
 have h2:=nc hj
 rw [List.getElem?_eq_getElem (by rw [go];exact hi)] at h1
 rw [List.getElem?_eq_getElem (by rw [go];exact hj)] at h2
 have h3:=Option.some.inj h1
 have h4:=Option.some.inj h2
 have h5:=h.rg i hi
 have h6:=h.rg j hj
 have:=h.inj i j hi hj om
 omega
theorem Or14.all (h:Or14 o) {v:Nat} (hv:v<o.length):v∈jb o:=by
 refine A4 h.nodup (λx hx=>?_) (by rw [go];exact hv)
 obtain ⟨i,hi⟩:=List.mem_iff_getElem?.1 hx
 have hil:i<o.length:=by have:=(List.getElem?_eq_some_iff.1 hi).1;rwa [go] at this
 rw [nc hil] at hi
 have:=h.rg i hil
 rw [go]
 have:=Option.some.inj hi
 omega
theorem Or14.lev_at (h:Or14 o) {i:Nat} (hi:i<o.length):dc o (at' o (i:Int)).toNat=i:=by
 have h1:=nc hi
 have hil:i<(jb o).length:=by rw [go];exact hi
 rw [List.getElem?_eq_getElem hil] at h1
 unfold dc
 rw [<-Option.some.inj h1]
 exact h.nodup.idxOf_getElem i hil
theorem Or14.at_lev (h:Or14 o) {v:Nat} (hv:v<o.length):dc o v<o.length/\at' o (dc o v:Int)=v:=by
 have hm:=h.all hv
 have hl:dc o v<(jb o).length:=List.idxOf_lt_length_of_mem hm
 have hl':dc o v<o.length:=by rwa [go] at hl
 refine ⟨hl',?_⟩
 have h1:=nc hl'
 rw [List.getElem?_eq_getElem hl] at h1
 have h2:(jb o)[dc o v]=v:=List.getElem_idxOf hl
 rw [h2] at h1
 have:=h.rg _ hl'
 have:=Option.some.inj h1
 omega
theorem Or14.ord (h:Or14 o):OrdL o.length (dc o) (jb o):=by
 refine ⟨⟨λi j hi hj he=>?_,λi hi=>(h.at_lev hi).1⟩,go,λi v hi=>?_,λv hv=>?_⟩
 ·have h1:=(h.at_lev hi).2
  have h2:=(h.at_lev hj).2
  rw [he] at h1
  omega
 ·have hil:i<o.length:=by have:=(List.getElem?_eq_some_iff.1 hi).1;rwa [go] at this
  rw [nc hil] at hi
  have h1:=Option.some.inj hi
  have h2:=h.rg i hil
  exact ⟨by omega,by rw [<-h1];exact h.lev_at hil⟩
 ·have h1:=h.at_lev hv
  rw [nc h1.1,h1.2]
  rfl
end
end Go.Gg
namespace Go.Gg
section
variable {o:List Int} {N:List GDNode}
end
end Go.Gg
namespace Go.Gg
section
variable {N:List GDNode}
theorem C_ {i:Nat} (hi:i<N.length):N[i]? = some (at' N (i:Int)):=by
 simp [at',List.getD_eq_getElem?_getD,List.getElem?_eq_getElem hi]
structure NB (N:List GDNode) (b:List Int) (ok:Bool) (next:Int) (seen:List Bool):Prop where
 nx:next=b.length
 ok:ok=true↔b=upto b.length
 len:seen.length=N.length
end
end Go.Gg
namespace Go.Gg
theorem Bj {e:Int} (h:e≠0):Option.isSome (ly e)=true:=by simp [ly,h]
theorem un {e:Int} (h:e≠0):ly e=some e:=by simp [ly,h]
structure VD (d:GDiagram):Prop where
 ord:Or14 d.Order
 wt:WT d.Order.length (dc d.Order) d.Nodes
 root:Vd d.Nodes d.Root
 le:d.Nodes.length<=4096
 num:Hl d.Nodes d.Root.toNat []=upto d.Nodes.length
def ux (o:List Int) (f:Asg->Bool):GDiagram:=⟨o,(dd (jb o) f []).1,(dd (jb o) f []).2⟩
end Go.Gg
namespace Go.Gg
theorem C9:(2:Nat)^62=4611686018427387904:=rfl
theorem sk {a:Nat} (h:a<2^62):(BitVec.ofInt 64 (a:Int)).toNat=a:=by
 rw [BitVec.toNat_ofInt]
 rw [C9] at h
 omega
theorem Ff {a:Nat} (h:a<2^62):IntKind.i64.wrap (a:Int)=(a:Int):=by
 rw [C9] at h
 exact iM (by unfold rng;omega)
theorem Er {a b:Nat} (ha:a<2^62) (hb:b<2^62):bits .or .i64 (a:Int) (b:Int)=((a ||| b:Nat):Int):=by
 show IntKind.i64.wrap (((BitVec.ofInt 64 (a:Int)) ||| (BitVec.ofInt 64 (b:Int))).toNat:Int)=_
 rw [BitVec.toNat_or,sk ha,sk hb]
 exact Ff (Nat.or_lt_two_pow ha hb)
theorem wG {s i:Nat}:inS s i=s.testBit i:=by rw [inS,Nat.testBit_eq_decide_div_mod_eq]
def i5 (p:Nat->Bool):Nat->Nat
 | 0=>0
 | n+1=>if p n=true then i5 p n+2^n else i5 p n
theorem oQ {p:Nat->Bool}:∀n,i5 p n<2^n
 | 0=>by simp [i5]
 | n+1=>by
  have:=oQ (p:=p) n
  rw [i5,Nat.pow_succ]
  split<;>omega
theorem wX {p:Nat->Bool} (n:Nat):i5 p n ||| 2^n=i5 p n+2^n:=by
 have:=Nat.two_pow_add_eq_or_of_lt (oQ (p:=p) n) 1
 rw [Nat.mul_one] at this
 rw [Nat.or_comm,<-this,Nat.add_comm]
theorem ot {p:Nat->Bool}:∀n i,(i5 p n).testBit i=(decide (i<n) && p i)
 | 0,i=>by simp [i5]
 | n+1,i=>by
  rw [i5]
  rcases Nat.lt_trichotomy i n with h | h | h
  ·have h1:(decide (i<n+1) && p i)=(decide (i<n) && p i):=by rw [decide_eq_true h,decide_eq_true om]
   rw [h1,<-ot n i]
   split
   ·rw [<-wX,Nat.testBit_or,Nat.testBit_two_pow_of_ne om,Bool.or_false]
   ·rfl
  ·subst h
   rw [decide_eq_true (Nat.lt_succ_self i),Bool.true_and]
   have h0:(i5 p i).testBit i=false:=Nat.testBit_lt_two_pow (oQ i)
   cases hp:p i with
   | true=>rw [if_pos rfl,<-wX,Nat.testBit_or,h0,Nat.testBit_two_pow_self,Bool.false_or]
   | false=>rw [if_neg (by simp)];exact h0
  ·rw [decide_eq_false om,Bool.false_and]
   refine Nat.testBit_lt_two_pow (Nat.lt_of_lt_of_le (m:=2^(n+1)) ?_ (Nat.pow_le_pow_right om om))
   have:=oQ (p:=p) n
   rw [Nat.pow_succ]
   split<;>omega
theorem wY {p:Nat->Bool} {n i:Nat} (h:i<n):inS (i5 p n) i=p i:=by rw [wG,ot,decide_eq_true h,Bool.true_and]
theorem Cg {n:Nat} (h:n<62):2^n<2^62:=Nat.pow_lt_pow_right om h
theorem DR {p:Nat->Bool} {n:Nat} (h:n<62):bits .or .i64 (i5 p n:Int) (1*2^(Int.toNat (n:Int)))=((i5 p n+2^n:Nat):Int):=by
 have e:(1*2^(Int.toNat (n:Int)):Int)=((2^n:Nat):Int):=by simp
 rw [e,Er (Nat.lt_trans (oQ n) (Cg h)) (Cg h),wX]
theorem Fv {n:Nat} (h:n<62):((0:Int)<=(n:Int)/\(n:Int)<=64)/\rng (1*2^(Int.toNat (n:Int))):=by
 refine ⟨by omega,?_⟩
 have e:(1*2^(Int.toNat (n:Int)):Int)=((2^n:Nat):Int):=by simp
 have h1:=Cg h
 rw [C9] at h1
 rw [e]
 generalize 2^n=z at h1 ⊢
 unfold rng;omega
end Go.Gg
namespace Go.Gg
def stA (s:Nat):Asg:=λv=>inS s v
theorem uz {p q:Nat->Bool}:∀ {n:Nat},(∀v,v<n->p v=q v)->i5 p n=i5 q n
 | 0,_=>rfl
 | n+1,h=>by rw [i5,i5,uz (n:=n) (λv hv=>h v om),h n om]
theorem pP {n:Nat} (h:n<=24):2^n<=16777216:=by
 have:=Nat.pow_le_pow_right (n:=2) om h
 exact this
section
variable {o:List Int} {N:List GDNode}
theorem uJ:∀(vs:List Nat) (f:Asg->Bool) (N:List GDNode),(dd vs f N).1.length+1<=N.length+2^vs.length
 | [],f,N=>by simp [dd]
 | v :: vs,f,N=>by
  have h1:=uJ vs (λσ=>f (cr σ v false)) N
  have h2:=uJ vs (λσ=>f (cr σ v true)) (dd vs (λσ=>f (cr σ v false)) N).1
  rw [dd,List.length_cons,Nat.pow_succ]
  unfold mkD
  split
  ·simp only;omega
  ·split
   ·simp only;omega
   ·simp only [List.length_append,List.length_singleton];omega
end
end Go.Gg
