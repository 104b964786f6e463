/- What the functions on natural numbers compute, told of their formulas: part A. Conditions: none. -/
import Derived.Test.YtnjgdkfhgmebjaaGreatGc
import Derived.KernelRfl
import Derived.Test.YtnjgdkfhgmebjaaGreatWa
namespace Go.Gg
theorem nY (l:List Int) (i:Int):at' l i=l.getD i.toNat 0:=rfl
theorem d9 (l:List Int) (i:Nat):at' l (i:Int)=l.getD i 0:=rfl
theorem dK {α:Type} (l:List α) (i:Nat) (x:α):b8 l (i:Int) x=l.set i x:=rfl
theorem oS {α:Type} (n:Nat) (x:α):eN (n:Int) x=List.replicate n x:=rfl
theorem xg {α:Type} {f:(α->Prop)->Prop} {k:α->Prop} (h:f k):cq f k:=⟨k,h,λ_ h=>h⟩
theorem eY {α:Type} {e:α} {k:α->Prop} (h:k e):h9 e k:=λ_ hv=>hv▸h
theorem condT {c:Prop} [Decidable c] {a b:Prop} (h1:c->a) (h2:¬c->b):aj (decide c) a b:=⟨λh=>h1 (of_decide_eq_true h),λh=>h2 (of_decide_eq_false h)⟩
theorem bS {α:Type} [DecidableEq α] {x y:α} {a b:Prop} (h1:x=y->a) (h2:x≠y->b):aj (x == y) a b:=⟨λh=>h1 (by simpa using h),λh=>h2 (by simpa using h)⟩
theorem eD {α:Type} [DecidableEq α] {x y:α} {a b:Prop} (h1:x≠y->a) (h2:x=y->b):aj (x != y) a b:=⟨λh=>h1 (by simpa using h),λh=>h2 (by simpa using h)⟩
theorem m4 {b:Nat} {n:Nat} (hb:b<=200) (h:n<=1099511627776):m5 b (n:Int) (n:Int):=⟨by omega,Int.le_refl _,by
 have:(b:Int)*(n:Int)<=200*1099511627776:=Int.mul_le_mul om om om om
 omega,by omega⟩
abbrev SM (l:List Int):Prop:=l.length<=1099511627776
theorem cP {a:List Int} {i:Nat} {Q:Int->Prop} (hw:Words a) (h:Q (a.getD i 0)):b_ a (i:Int) Q:=by
 refine condT (λhc=>⟨⟨by omega,hc⟩,?_⟩) (λhc=>?_)
 ·rw[d9]
  have:=hw i
  rw[wrap_u64_id om om]
  exact h
 ·rw[lz om] at h
  exact h
theorem bC {a:List Int} {Q:List Int->Prop} (hw:Words a) (hl:SM a) (h:Q (lim (val a))):bs a Q:=by
 refine⟨λn=>∃j:Nat,n=j/\j<=a.length/\(∀i,j<=i->i<a.length->a.getD i 0=0)/\(0<j->a.getD (j-1) 0≠0),?_,?_⟩
 ·refine⟨λn=>∃j:Nat,n=j/\j<=a.length/\(∀i,j<=i->i<a.length->a.getD i 0=0),λn=>n.toNat,⟨a.length,rfl,Nat.le_refl _,λi h1 h2=>om⟩,?_⟩
  rintro n ⟨j,rfl,hj,hz⟩
  refine condT (λhc=>⟨by unfold rng;omega,⟨by omega,by omega⟩,bS (λhe=>⟨by unfold rng;omega,⟨j-1,by omega,by omega,λi h1 h2=>?_⟩,by dsimp only;omega⟩) (λhe=>⟨j,rfl,hj,hz,λ_=>?_⟩)⟩) (λhc=>⟨j,rfl,hj,hz,λh0=>om⟩)
  ·by_cases hi:i=j-1
   ·subst hi
    rw[nY] at he
    have:((j:Int)-1).toNat=j-1:=om
    rwa[this] at he
   ·exact hz i om h2
  ·rw[nY] at he
   have:((j:Int)-1).toNat=j-1:=om
   rwa[this] at he
 ·rintro n ⟨j,rfl,hj,hz,hlast⟩
  have e:=m6 hw hj hz hlast
  refine bS (λhc=>?_) (λhc=>⟨⟨by omega,by omega,by omega⟩,?_,?_⟩)
  ·obtain rfl:j=0:=om
   rw[<-e] at h
   exact h
  ·simp[gn]
   have:min j a.length<=a.length:=om
   omega
  ·rw[<-e] at h
   simpa[gn] using h
theorem d6 {a b:List Int} {Q:Int->Prop} (ha:Words a) (hb:Words b) (la:SM a) (lb:SM b) (h:Q (kg (val a) (val b))):cM a b Q:=by
 refine bC ha la (bC hb lb ?_)
 have b1:=cG ha
 have b2:=cG hb
 have w1:=aq (val a)
 have w2:=aq (val b)
 have v1:=bG w1
 have v2:=bG w2
 rw[aC] at v1 v2
 generalize hA:lim (val a)=A at *
 generalize hB:lim (val b)=B at *
 have hlt:A.length<B.length->val a<val b:=λh=>by
  rw[<-hA,<-hB] at h
  rcases Nat.lt_or_ge (val a) (val b) with h' | h'
  ·exact h'
  ·have:=b6 h'
   omega
 have hgt:B.length<A.length->val b<val a:=λh=>by
  rw[<-hA,<-hB] at h
  rcases Nat.lt_or_ge (val b) (val a) with h' | h'
  ·exact h'
  ·have:=b6 h'
   omega
 unfold SM at la lb
 refine eD (λhc=>condT (λh1=>?_) (λh1=>?_)) (λhc=>⟨by unfold rng;omega,?_⟩)
 ·rw[kg,if_pos (hlt om)] at h;exact h
 ·have:=hgt om
  rw[kg,if_neg om,if_neg om] at h;exact h
 ·have hlen:A.length=B.length:=om
  refine⟨λi=>∃j:Nat,i=(j:Int)-1/\j<=A.length/\(∀k,j<=k->k<A.length->A.getD k 0=B.getD k 0),λi=>(i+1).toNat,⟨A.length,rfl,Nat.le_refl _,λk h1 h2=>om⟩,?_⟩
  rintro i ⟨j,rfl,hj,he⟩
  have hj1:((j:Int)-1).toNat=j-1:=om
  refine condT (λhc=>⟨⟨by omega,by omega⟩,⟨by omega,by omega⟩,?_⟩) (λhc=>?_)
  ·rw[nY,nY,hj1]
   refine condT (λh1=>?_) (λh1=>⟨⟨by omega,by omega⟩,⟨by omega,by omega⟩,condT (λh2=>?_) (λh2=>⟨by unfold rng;omega,⟨j-1,by omega,by omega,λk h3 h4=>?_⟩,by dsimp only;omega⟩)⟩)
   ·have:=uI w1 w2 (i:=j-1) (n:=A.length) om h1 (λk h1 h2=>he k om h2)
    rw[<-hlen] at v2
    rw[kg,if_pos om] at h;exact h
   ·have:=uI w2 w1 (i:=j-1) (n:=A.length) om h2 (λk h1 h2=>(he k om h2).symm)
    rw[<-hlen] at v2
    rw[kg,if_neg om,if_neg om] at h;exact h
   ·by_cases hk:k=j-1
    ·subst hk;omega
    ·exact he k om h4
  ·have:=gW (l:=A) (m:=B) A.length (λk hk=>he k om hk)
   rw[<-hlen] at v2
   rw[kg,if_neg om,if_pos om] at h;exact h
theorem qB {a b:List Int} {Q:List Int->Prop} (ha:Words a) (hb:Words b) (la:SM a) (lb:a.length<=1099511627775/\b.length<=1099511627775) (h:Q (lim (val a+val b))):gL a b Q:=by
 unfold SM at la
 obtain⟨n,hn0⟩:∃n,n=max a.length b.length+1:=⟨_,rfl⟩
 have hn:max (a.length:Int) (b.length:Int)+1=(n:Int):=om
 unfold gL
 rw[hn]
 refine⟨by unfold rng;omega,m4 om om,?_⟩
 rw[Int.toNat_natCast]
 refine⟨λy=>∃i:Nat,y.2.1=i/\i<=n/\y.2.2.length=n/\Words y.2.2/\0<=y.1/\y.1<=1/\pv y.2.2 i+y.1*4294967296^i=pv a i+pv b i,λy=>n-y.2.1.toNat,⟨0,rfl,by omega,by simp[eN],Words.rep n,by omega,by omega,by simp[pv]⟩,?_⟩
 rintro⟨c,x,out⟩ ⟨i,hx,hi,hlen,hw,hc0,hc1,hpv⟩
 simp only at hx hi hlen hw hc0 hc1 hpv
 subst hx
 have hxl:=ha i
 have hxm:=hb i
 refine condT (λhlt=>?_) (λhge=>?_)
 ·refine cP ha (cP hb (eY ⟨⟨by omega,by omega⟩,by unfold rng;omega,?_,?_⟩))
  ·simp (disch:=omega) only[dK,wrap_u64_id,wrap_u32]
   refine⟨i+1,by omega,by omega,by simp[hlen],hw.set _ om om,by show 0<=_ / 4294967296;omega,by show _ / 4294967296<=1;omega,?_⟩
   show pv (out.set i _) (i+1)+_ / 4294967296*_=_
   rw[pD om,Int.pow_succ,pv,pv,Int.add_assoc,jh]
   have:=Int.add_mul c (a.getD i 0+b.getD i 0) (4294967296^i)
   have:=Int.add_mul (a.getD i 0) (b.getD i 0) (4294967296^i)
   omega
  ·show n-((i:Int)+1).toNat<n-(i:Int).toNat
   omega
 ·obtain rfl:i=n:=om
  refine bC hw (by unfold SM;omega) ?_
  have e:val out=val a+val b:=by
   have a1:=cT hw (i:=i) om
   have a2:=cT ha (i:=i) om
   have a3:=cT hb (i:=i) om
   have b2:=kq (l:=a) (i-1) om
   have b3:=kq (l:=b) (i-1) om
   have b4:=kq (l:=a) i om
   have b5:=kq (l:=b) i om
   have c2:=(bd ha (i-1)).2
   have c3:=(bd hb (i-1)).2
   have hi1:i=i-1+1:=om
   have hc:=hpv
   rw[hi1,Int.pow_succ,<-hi1] at hc
   have:=p7 hc om om om hc0 hc1 (dk _)
   subst this
   omega
  rw[e]
  exact h
theorem lS {a b:List Int} {Q:List Int->Option Int->Prop} (ha:Words a) (hb:Words b) (la:SM a) (lb:SM b) (h1:val a<val b->Q [] (some 3)) (h2:val b<=val a->Q (lim (val a-val b)) none):gJ a b Q:=by
 refine d6 ha hb la lb (condT (λhc=>h1 (iJ.1 hc)) (λhc=>⟨m4 om la,?_⟩))
 have hge:val b<=val a:=by have:=mt iJ.2 hc;omega
 have h:=h2 hge
 clear h1 h2
 unfold SM at la lb
 rw[Int.toNat_natCast]
 refine⟨λy=>∃i:Nat,y.2.1=i/\i<=a.length/\y.2.2.length=a.length/\Words y.2.2/\0<=y.1/\y.1<=1/\pv y.2.2 i=pv a i-pv b i+y.1*4294967296^i,λy=>a.length-y.2.1.toNat,⟨0,rfl,by omega,by simp[eN],Words.rep _,by omega,by omega,by simp[pv]⟩,?_⟩
 rintro⟨c,x,out⟩ ⟨i,hx,hi,hlen,hw,hb0,hb1,hpv⟩
 simp only at hx hi hlen hw hb0 hb1 hpv
 subst hx
 have hxl:=ha i
 have hxm:=hb i
 obtain⟨q1,q2,q3⟩:=o7 (a.getD i 0) (b.getD i 0) c hxl hxm ⟨hb0,hb1⟩
 refine condT (λhlt=>cP ha (cP hb (eY ⟨⟨by omega,by omega⟩,by unfold rng;omega,?_,by dsimp only;omega⟩))) (λhge=>?_)
 ·simp only[dK,wrap_u32]
  generalize IntKind.u64.wrap (IntKind.u64.wrap (a.getD i 0-b.getD i 0)-c)=d at *
  have e63:d / 2^Int.toNat 63=d / 9223372036854775808:=rfl
  refine⟨i+1,by omega,by omega,by simp[hlen],hw.set _ om om,by simpa only[e63] using q2,by simpa only[e63] using q3,?_⟩
  simp only[e63]
  rw[pD om,Int.pow_succ,pv,pv,hpv]
  have e:d % 4294967296=a.getD i 0-b.getD i 0-c+4294967296*(d / 9223372036854775808):=om
  rw[e]
  generalize d / 9223372036854775808=d'
  have a1:=Int.add_mul (a.getD i 0-b.getD i 0-c) (4294967296*d') (4294967296^i)
  have a2:=Int.sub_mul (a.getD i 0-b.getD i 0) c (4294967296^i)
  have a3:=Int.sub_mul (a.getD i 0) (b.getD i 0) (4294967296^i)
  have a4:4294967296*d'*4294967296^i=d'*(4294967296^i*4294967296):=by rw[Int.mul_comm 4294967296 d',Int.mul_assoc,Int.mul_comm 4294967296]
  omega
 ·obtain rfl:i=a.length:=om
  refine bC hw (by unfold SM;omega) ?_
  have e:val out=val a-val b:=by
   have a1:=cT hw (i:=a.length) om
   have a2:=bG ha
   have a3:=bd ha a.length
   have a4:=bd hw a.length
   have a5:=bd hb a.length
   have a6:=bG hb
   rcases Nat.lt_or_ge a.length b.length with h | h
   ·have hm1:=lv hb (Nat.le_of_lt h)
    rcases (by omega:c=0\/c=1) with rfl | rfl
    ·
     have hz:pv b b.length=pv b a.length:=by
      refine mR hb (Nat.le_of_lt h) ?_
      omega
     omega
    ·omega
   ·have hm1:=cT hb h
    rcases (by omega:c=0\/c=1) with rfl | rfl<;>omega
  rw[e]
  exact h
theorem du {a b:List Int} {Q:List Int->Prop} (ha:Words a) (hb:Words b) (la:a.length+b.length<=1099511627776) (h:Q (lim (val a*val b))):cw a b Q:=by
 obtain⟨N,hN⟩:∃N,N=a.length+b.length:=⟨_,rfl⟩
 have hNi:(a.length:Int)+(b.length:Int)=(N:Int):=om
 unfold cw
 rw[hNi]
 refine⟨by unfold rng;omega,m4 om om,?_⟩
 refine⟨λy=>∃i:Nat,y.1=i/\i<=a.length/\y.2.length=N/\Words y.2/\(∀p,i+b.length<=p->y.2.getD p 0=0)/\pv y.2 N=pv a i*pv b b.length,λy=>a.length-y.1.toNat,
  ⟨0,rfl,by omega,by simp[eN],Words.rep _,λp hp=>by rw[oS,List.getD_eq_getElem?_getD,List.getElem?_replicate];split<;>rfl,by rw[oS,mf];simp[pv]⟩,?_⟩
 rintro⟨x,out⟩ ⟨i,hx,hi,hlen,hw,hz,hpv⟩
 simp only at hx hi hlen hw hz hpv
 subst hx
 have hxi:=ha i
 refine condT (λhlt=>⟨⟨by omega,hlt⟩,?_⟩) (λhge=>?_)
 ·refine⟨λy=>∃k:Nat,y.2.1=k/\k<=b.length/\y.2.2.length=N/\Words y.2.2/\(∀p,i+b.length<=p->y.2.2.getD p 0=0)/\0<=y.1/\y.1<4294967296/\
    pv y.2.2 N+y.1*4294967296^(i+k)=pv a i*pv b b.length+a.getD i 0*4294967296^i*pv b k,λy=>b.length-y.2.1.toNat,
   ⟨0,rfl,by omega,hlen,hw,hz,by omega,by omega,by simp[pv,hpv]⟩,?_⟩
  clear hpv hz hw hlen h
  rintro⟨c,x1,out2⟩ ⟨k,hx,hk,hlen,hw,hz,hc0,hc1,hpv⟩
  simp only at hx hk hlen hw hz hc0 hc1 hpv
  subst hx
  have hy:=hb k
  have ho:=hw (i+k)
  obtain⟨q1,q2⟩:=tw hxi hy
  have eik:(i:Int)+(k:Int)=((i+k:Nat):Int):=om
  have eib:(i:Int)+(b.length:Int)=((i+b.length:Nat):Int):=om
  refine condT (λhlt2=>⟨⟨by omega,hlt2⟩,by unfold rng;omega,⟨by omega,by omega⟩,eY ⟨by unfold rng;omega,⟨by omega,by omega⟩,by unfold rng;omega,?_,by dsimp only;omega⟩⟩) (λhge2=>⟨by unfold rng;omega,⟨by omega,by omega⟩,by unfold rng;omega,?_,by dsimp only;omega⟩)
  ·simp only[eik,d9,dK]
   simp (disch:=omega) only[wrap_u64_id,wrap_u32]
   have e32:∀z:Int,z / 2^Int.toNat 32=z / 4294967296:=λ_=>rfl
   simp only[e32]
   generalize hv:c+(a.getD i 0*b.getD k 0+out2.getD (i+k) 0)=v
   refine⟨k+1,by omega,by omega,by simp[hlen],hw.set _ om om,λp hp=>?_,by show 0<=v / 4294967296;omega,by show v / 4294967296<4294967296;omega,?_⟩
   ·show(out2.set (i+k) _).getD p 0=0
    rw[bK om];exact hz p hp
   ·show pv (out2.set (i+k) (v % 4294967296)) N+v / 4294967296*4294967296^(i+(k+1))=_
    rw[ey om N om,pv,<-Nat.add_assoc,Int.pow_succ,Int.mul_add,<-Int.add_assoc,<-hpv]
    have s1:=jh v (4294967296^(i+k))
    have s2:=Int.sub_mul (v % 4294967296) (out2.getD (i+k) 0) (4294967296^(i+k))
    have s3:v*4294967296^(i+k)=c*4294967296^(i+k)+(a.getD i 0*4294967296^i*(b.getD k 0*4294967296^k)+out2.getD (i+k) 0*4294967296^(i+k)):=by
     rw[<-hv,Int.add_mul,Int.add_mul,Int.pow_add]
     congr 2
     rw[Int.mul_assoc,Int.mul_assoc,Int.mul_left_comm (b.getD k 0)]
    omega
  ·obtain rfl:k=b.length:=om
   simp only[eib,dK,wrap_u32]
   have hcm:c % 4294967296=c:=om
   rw[hcm]
   refine⟨i+1,by omega,by omega,by simp[hlen],hw.set _ om om,λp hp=>?_,?_⟩
   ·show(out2.set (i+b.length) c).getD p 0=0
    rw[bK om];exact hz p om
   ·show pv (out2.set (i+b.length) c) N=pv a (i+1)*_
    rw[ey om N om,hz (i+b.length) om,pv,Int.add_mul,Int.sub_zero]
    exact hpv
 ·obtain rfl:i=a.length:=om
  refine bC hw (by unfold SM;omega) ?_
  have e:val out=val a*val b:=by
   have a1:=cT hw (i:=N) om
   have a2:=bG ha
   have a3:=bG hb
   have:((val a*val b:Nat):Int)=(val a:Int)*(val b:Int):=by simp
   have:(val out:Int)=((val a*val b:Nat):Int):=by rw[this,a1,hpv,a2,a3]
   omega
  rw[e]
  exact h
end Go.Gg
namespace Go.Gg
theorem wU {x y i:Nat} (hx:x<2^i) (hy:2^i ∣ y):y ||| x=y+x:=by
 obtain⟨z,rfl⟩:=hy
 rw[Nat.mul_comm,<-Nat.shiftLeft_eq,Nat.shiftLeft_add_eq_or_of_lt hx]
theorem pK {x y:Int} (i:Nat) (hx:0<=x) (hxi:x<2^i) (hy:0<=y) (hyi:y % 2^i=0) (hs:y+x<18446744073709551616):bits .or .u64 y x=y+x:=by
 obtain⟨m,rfl⟩:=Int.eq_ofNat_of_zero_le hx
 obtain⟨n,rfl⟩:=Int.eq_ofNat_of_zero_le hy
 have h1:m<2^i:=by exact_mod_cast hxi
 have h2:2^i ∣ n:=by
  have:(n:Int) % ((2^i:Nat):Int)=0:=by simpa using hyi
  exact Nat.dvd_of_mod_eq_zero om
 have h3:=wU h1 h2
 show IntKind.u64.wrap (((BitVec.ofInt 64 (n:Int)) ||| (BitVec.ofInt 64 (m:Int))).toNat:Int)=_
 rw[kE,BitVec.toNat_or,BitVec.toNat_ofInt,BitVec.toNat_ofInt]
 have e1:((n:Int) % ((2^64:Nat):Int)).toNat=n:=om
 have e2:((m:Int) % ((2^64:Nat):Int)).toNat=m:=om
 rw[e1,e2,h3]
 omega
theorem rN {x y:Int} (i:Nat) (hx:0<=x) (hxi:x<2^i) (hy:0<=y) (hyi:y % 2^i=0) (hs:y+x<18446744073709551616):bits .or .u64 x y=y+x:=by
 rw[<-pK i hx hxi hy hyi hs]
 show IntKind.u64.wrap (((BitVec.ofInt 64 x) ||| (BitVec.ofInt 64 y)).toNat:Int)=IntKind.u64.wrap (((BitVec.ofInt 64 y) ||| (BitVec.ofInt 64 x)).toNat:Int)
 rw[BitVec.or_comm]
theorem yc {x y:Int} (i:Nat) (hx:0<=x) (hxi:x<2^i) (hy:0<=y) (hyi:y % 2^i=0) (hs:y+x<4294967296):bits .or .u32 x y=y+x:=by
 obtain⟨m,rfl⟩:=Int.eq_ofNat_of_zero_le hx
 obtain⟨n,rfl⟩:=Int.eq_ofNat_of_zero_le hy
 have h1:m<2^i:=by exact_mod_cast hxi
 have h2:2^i ∣ n:=by
  have:(n:Int) % ((2^i:Nat):Int)=0:=by simpa using hyi
  exact Nat.dvd_of_mod_eq_zero om
 have h3:=wU h1 h2
 show IntKind.u32.wrap (((BitVec.ofInt 32 (m:Int)) ||| (BitVec.ofInt 32 (n:Int))).toNat:Int)=_
 rw[wrap_u32,BitVec.toNat_or,BitVec.toNat_ofInt,BitVec.toNat_ofInt]
 have e1:((n:Int) % ((2^32:Nat):Int)).toNat=n:=om
 have e2:((m:Int) % ((2^32:Nat):Int)).toNat=m:=om
 rw[e1,e2,Nat.or_comm,h3]
 omega
def bt (n:Nat):Nat:=if n=0 then 0 else n.log2+1
theorem rl:bt 0=0:=rfl
theorem lD {n:Nat}:n<2^bt n:=by
 unfold bt
 split
 ·omega
 ·exact Nat.lt_log2_self
theorem kh {n:Nat} (h:n≠0):2^(bt n-1)<=n:=by
 unfold bt
 rw[if_neg h]
 exact Nat.log2_self_le h
theorem nX {n k:Nat} (h:n<2^k) (h':k≠0->2^(k-1)<=n):bt n=k:=by
 by_cases h0:n=0
 ·subst h0
  cases k with
  | zero=>rfl
  | succ k=>have:=h' om;have:0<2^k:=Nat.pow_pos om;simp at *
 ·have a:=lD (n:=n)
  have b:=kh h0
  have hk:k≠0:=by rintro rfl;simp at h;omega
  have c:=h' hk
  have hb:bt n≠0:=by unfold bt;rw[if_neg h0];omega
  rcases Nat.lt_trichotomy (bt n) k with hlt | he | hgt
  ·have:2^bt n<=2^(k-1):=Nat.pow_le_pow_right om om
   omega
  ·exact he
  ·have:2^k<=2^(bt n-1):=Nat.pow_le_pow_right om om
   omega
theorem p8 {n k:Nat} (h:2^k<=n):bt n=bt (n / 2^k)+k:=by
 have hp:0<2^k:=Nat.pow_pos om
 have hq:n / 2^k≠0:=by have:=Nat.div_pos h hp;omega
 have a:=lD (n:=n / 2^k)
 have b:=kh hq
 have hb:bt (n / 2^k)≠0:=by unfold bt;rw[if_neg hq];omega
 refine nX ?_ (λ_=>?_)
 ·rw[Nat.pow_add]
  rw[Nat.div_lt_iff_lt_mul hp] at a
  exact a
 ·have e:bt (n / 2^k)+k-1=(bt (n / 2^k)-1)+k:=om
  rw[e,Nat.pow_add]
  rw[Nat.le_div_iff_mul_le hp] at b
  exact b
theorem xN:(List.range 256).all (λk=>mA eJ k == (bt k:Int))=true:=by kernel_rfl
theorem y8 {k:Nat} (h:k<256):mA eJ k=(bt k:Int):=by
 have:=List.all_eq_true.1 xN k (by simpa using h)
 simpa using this
theorem wx:eJ.size=256:=by kernel_rfl
theorem uT {x:Nat} {Q:Int->Prop} (hx:x<4294967296) (h:Q (bt x)):ee (x:Int) Q:=by
 refine⟨λy=>∃z k:Nat,y=((z:Int),(k:Int))/\z<65536/\k<=16/\bt x=bt z+k,?_,?_⟩
 ·refine condT (λhc=>⟨x / 65536,16,?_,by omega,by omega,?_⟩) (λhc=>⟨x,0,rfl,by omega,by omega,rfl⟩)
  ·show((x:Int) / 65536,(16:Int))=_
   rw[Prod.mk.injEq];exact⟨by omega,rfl⟩
  ·exact p8 (k:=16) om
 ·rintro _ ⟨z,k,rfl,hz,hk,hb⟩
  refine⟨λy=>∃z k:Nat,y=((z:Int),(k:Int))/\z<256/\k<=24/\bt x=bt z+k,?_,?_⟩
  ·refine condT (λhc=>⟨by unfold rng;omega,z / 256,k+8,?_,by omega,by omega,?_⟩) (λhc=>⟨z,k,rfl,by omega,by omega,hb⟩)
   ·show((z:Int) / 256,(k:Int)+8)=_
    rw[Prod.mk.injEq];exact⟨by omega,by omega⟩
   ·have h8:=p8 (n:=z) (k:=8) om
    have e:z / 2^8=z / 256:=rfl
    rw[e] at h8
    omega
  ·rintro _ ⟨z,k,rfl,hz,hk,hb⟩
   show(_/\_)
   have hw:IntKind.u8.wrap (z:Int)=z:=by rw[wrap_u8];omega
   have hz':(bt z:Int)<=8:=by
    have:bt z<=8:=by
     by_cases h0:z=0
     ·subst h0;simp[bt]
     ·have:=kh h0
      rcases Nat.lt_or_ge 8 (bt z) with h8 | h8
      ·have:2^8<=2^(bt z-1):=Nat.pow_le_pow_right om om
       omega
      ·exact h8
    omega
   rw[hw,wx]
   have e:(Int.toNat (z:Int))=z:=om
   rw[e,y8 hz,fT (by unfold rng;omega)]
   refine⟨⟨by omega,by omega⟩,by unfold rng;omega,eY ?_⟩
   have:(k:Int)+(bt z:Int)=((bt x:Nat):Int):=om
   rw[this]
   exact h
theorem lE {x:Nat} (hx:x<4294967296):bt x<=32:=by
 by_cases h0:x=0
 ·subst h0;simp[bt]
 ·have:=kh h0
  rcases Nat.lt_or_ge 32 (bt x) with h8 | h8
  ·have:2^32<=2^(bt x-1):=Nat.pow_le_pow_right om om
   omega
  ·exact h8
theorem zn {x:Nat} {Q:Int->Prop} (hx:x<4294967296) (h:Q ((32-bt x:Nat):Int)):db (x:Int) Q:=by
 refine uT hx ?_
 have h1:=lE hx
 refine⟨by unfold rng;omega,?_⟩
 have:(32:Int)-(bt x:Int)=((32-bt x:Nat):Int):=om
 rw[this]
 exact h
end Go.Gg
namespace Go.Gg
theorem lk {n:Nat} (h:n<=32):(2:Int)^n*2^(32-n)=4294967296:=by
 rw[<-Int.pow_add]
 have:n+(32-n)=32:=om
 rw[this];rfl
theorem dx (n:Nat):(0:Int)<2^n:=Int.pow_pos om
theorem kU {a:List Int} {n:Nat} {Q:List Int->Prop} (ha:Words a) (la:a.length<=1099511627775) (hn:n<=32) (h:∀out,Words out->out.length=a.length+1->val out=val a*2^n->Q out):da a (n:Int) Q:=by
 have hL:(a.length:Int)+1=((a.length+1:Nat):Int):=om
 unfold da
 rw[hL]
 have hs:=lk hn
 have hpp:=dx n
 have hqp:=dx (32-n)
 generalize hp:(2:Int)^n=p at *
 generalize (2:Int)^(32-n)=q at *
 have hple:p<=4294967296:=by
  have:p*1<=p*q:=Int.mul_le_mul_of_nonneg_left om om
  omega
 have hdvd:p ∣ 4294967296:=⟨q,hs.symm⟩
 refine⟨by unfold rng;omega,m4 om om,λy=>∃i:Nat,y.1=i/\i<=a.length/\y.2.length=a.length+1/\Words y.2/\(∀k,i<k->y.2.getD k 0=0)/\y.2.getD i 0<p/\pv y.2 (i+1)=pv a i*p,λy=>a.length-y.1.toNat,
  ⟨0,rfl,by omega,by simp[eN],Words.rep _,λk hk=>?_,?_,?_⟩,?_⟩
 ·show(List.replicate (a.length+1) (0:Int)).getD k 0=0
  rw[List.getD_eq_getElem?_getD,List.getElem?_replicate];split<;>rfl
 ·show(List.replicate (a.length+1) (0:Int)).getD 0 0<p
  simp;omega
 ·show pv (List.replicate (a.length+1) (0:Int)) 1=_
  rw[mf];simp[pv]
 rintro⟨x,out⟩ ⟨i,hx,hi,hlen,hw,hz,hlow,hpv⟩
 simp only at hx hi hlen hw hz hlow hpv
 subst hx
 have hxi:=ha i
 have hoi:=hw i
 refine condT (λhlt=>⟨⟨by omega,hlt⟩,⟨by omega,by omega⟩,?_⟩) (λhge=>?_)
 ·rw[d9,Int.toNat_natCast,hp]
  have hy0:0<=a.getD i 0*p:=Int.mul_nonneg hxi.1 om
  have hy1:a.getD i 0*p<4294967296*p:=Int.mul_lt_mul_of_pos_right hxi.2 hpp
  have hy2:4294967296*p<=4294967296*4294967296:=Int.mul_le_mul_of_nonneg_left hple om
  rw[wrap_u64_id hxi.1 om,wrap_u64_id hy0 om]
  refine eY ?_
  have hdy:p ∣ a.getD i 0*p:=⟨_,Int.mul_comm _ _⟩
  have hhi:a.getD i 0*p / 4294967296<p:=by
   rw[Int.ediv_lt_iff_lt_mul om]
   rw[Int.mul_comm p];exact hy1
  generalize hv:a.getD i 0*p=y at *
  refine⟨⟨by omega,by omega⟩,⟨by omega,by omega⟩,by unfold rng;omega,⟨by omega,by omega⟩,by unfold rng;omega,?_,by dsimp only;omega⟩
  have e1:(i:Int)+1=((i+1:Nat):Int):=om
  have e32:y / 2^Int.toNat 32=y / 4294967296:=rfl
  have hm:(y % 4294967296) % p=0:=by rw[Int.emod_emod_of_dvd _ hdvd];exact Int.emod_eq_zero_of_dvd hdy
  have hh0:0<=y / 4294967296:=om
  have hor:bits .or .u32 (out.getD i 0) (y % 4294967296)=y % 4294967296+out.getD i 0:=by
   refine yc n hoi.1 (by rw[hp];exact hlow) om (by rw[hp];exact hm) ?_
   obtain⟨z,hz'⟩:=Int.dvd_of_emod_eq_zero hm
   have:z<q:=by
    rcases Int.lt_or_le z q with h1 | h1
    ·exact h1
    ·have:p*q<=p*z:=Int.mul_le_mul_of_nonneg_left h1 om
     omega
   have:p*z<=p*(q-1):=Int.mul_le_mul_of_nonneg_left om om
   rw[Int.mul_sub,hs] at this
   omega
  rw[e1,d9,dK,dK,e32,wrap_u32,wrap_u32,hor]
  have hlo:y % 4294967296+out.getD i 0<4294967296:=by
   obtain⟨z,hz'⟩:=Int.dvd_of_emod_eq_zero hm
   have:z<q:=by
    rcases Int.lt_or_le z q with h1 | h1
    ·exact h1
    ·have:p*q<=p*z:=Int.mul_le_mul_of_nonneg_left h1 om
     omega
   have:p*z<=p*(q-1):=Int.mul_le_mul_of_nonneg_left om om
   rw[Int.mul_sub,hs] at this
   omega
  have hmod:y / 4294967296 % 4294967296=y / 4294967296:=om
  rw[hmod]
  refine⟨i+1,rfl,by omega,by simp[hlen],(hw.set _ om om).set _ hh0 om,λk hk=>?_,?_,?_⟩
  ·show((out.set i _).set (i+1) _).getD k 0=0
   rw[bK om,bK om]
   exact hz k om
  ·show((out.set i _).set (i+1) _).getD (i+1) 0<p
   rw[gQ (by simp;omega)]
   exact hhi
  ·show pv ((out.set i _).set (i+1) _) (i+1+1)=_
   rw[pD (by simp;omega),pD om,pv,Int.pow_succ]
   rw[pv] at hpv
   have s4:=Int.add_mul (pv a i) (a.getD i 0*4294967296^i) p
   have s1:=jh y (4294967296^i)
   have s2:=Int.add_mul (y % 4294967296) (out.getD i 0) (4294967296^i)
   have s3:a.getD i 0*4294967296^i*p=y*4294967296^i:=by rw[<-hv,Int.mul_assoc,Int.mul_comm _ p,<-Int.mul_assoc]
   omega
 ·obtain rfl:i=a.length:=om
  refine h out hw hlen ?_
  have a1:=bG hw
  have a2:=bG ha
  rw[hlen,hpv,<-a2] at a1
  have:((val a*2^n:Nat):Int)=(val a:Int)*p:=by rw[<-hp];simp
  have:(val out:Int)=((val a*2^n:Nat):Int):=by rw[this];exact a1
  omega
theorem oG {a:List Int} {n:Nat} {Q:List Int->Prop} (ha:Words a) (la:SM a) (hn:n<=32) (h:∀out,Words out->out.length=a.length->val out=val a / 2^n->Q out):ft a (n:Int) Q:=by
 unfold SM at la
 unfold ft
 have hs:=lk hn
 have hpp:=dx n
 have hqp:=dx (32-n)
 generalize hp:(2:Int)^n=p at *
 generalize (2:Int)^(32-n)=q at *
 have hdvd:p ∣ 4294967296:=⟨q,hs.symm⟩
 refine⟨m4 om la,λy=>∃i:Nat,y.1=i/\i<=a.length/\y.2.length=a.length/\Words y.2/\pv y.2 i*p=pv a i-a.getD 0 0 % p+(a.getD i 0 % p)*4294967296^i,λy=>a.length-y.1.toNat,
  ⟨0,rfl,by omega,by simp[eN],Words.rep _,by simp[pv];omega⟩,?_⟩
 rintro⟨x,out⟩ ⟨i,hx,hi,hlen,hw,hpv⟩
 simp only at hx hi hlen hw hpv
 subst hx
 have h0:=ha i
 have h1:=ha (i+1)
 have e1:(i:Int)+1=((i+1:Nat):Int):=om
 refine condT (λhlt=>cP ha ⟨by unfold rng;omega,?_⟩) (λhge=>?_)
 ·rw[e1]
  refine cP ha ⟨⟨by omega,by omega⟩,⟨by omega,by omega⟩,by unfold rng;omega,?_,by dsimp only;omega⟩
  have e32:(2:Int)^Int.toNat 32=4294967296:=rfl
  rw[e32,Int.toNat_natCast,hp,wrap_u64_id om om,rN 32 h0.1 h0.2 om (by show _ % 4294967296=0;omega) om,dK,wrap_u32]
  generalize ha0:a.getD i 0=x0 at *
  generalize ha1:a.getD (i+1) 0=x1 at *
  have hx0:0<=x0 / p:=Int.ediv_nonneg h0.1 om
  have hx0':x0 / p<q:=by rw[Int.ediv_lt_iff_lt_mul hpp,Int.mul_comm,hs];exact h0.2
  have hm0:0<=x1 % p:=Int.emod_nonneg _ om
  have hm1:x1 % p<p:=Int.emod_lt_of_pos _ hpp
  have hdv:(x1*4294967296+x0) / p=x1*q+x0 / p:=by
   rw[<-hs,Int.mul_left_comm,Int.add_comm,Int.add_mul_ediv_left _ _ om,Int.add_comm]
  have hk:(x1*4294967296+x0) / p % 4294967296=(x1 % p)*q+x0 / p:=by
   have d1:x1=p*(x1 / p)+x1 % p:=(Int.mul_ediv_add_emod x1 p).symm
   have d2:x1*q+x0 / p=(x1 % p)*q+x0 / p+4294967296*(x1 / p):=by
    have:x1*q=(p*(x1 / p)+x1 % p)*q:=by rw[<-d1]
    rw[this,Int.add_mul,Int.mul_right_comm,hs];omega
   rw[hdv,d2,Int.add_mul_emod_self_left]
   refine Int.emod_eq_of_lt ?_ ?_
   ·have:=Int.mul_nonneg hm0 (Int.le_of_lt hqp);omega
   ·have:(x1 % p)*q<=(p-1)*q:=Int.mul_le_mul_of_nonneg_right om om
    rw[Int.sub_mul,hs] at this;omega
  rw[hk]
  have hq0:=Int.mul_nonneg hm0 (Int.le_of_lt hqp)
  have hq1:(x1 % p)*q<=(p-1)*q:=Int.mul_le_mul_of_nonneg_right om om
  rw[Int.sub_mul,hs] at hq1
  refine⟨i+1,rfl,by omega,by simp[hlen],hw.set _ om om,?_⟩
  show pv (out.set i (x1 % p*q+x0 / p)) (i+1)*p=pv a (i+1)-_+_
  rw[pD om,pv,Int.add_mul,hpv,ha0,ha1,Int.pow_succ]
  have d0:x0=p*(x0 / p)+x0 % p:=(Int.mul_ediv_add_emod x0 p).symm
  have s1:(x1 % p*q+x0 / p)*4294967296^i*p=x1 % p*(4294967296^i*4294967296)+(p*(x0 / p))*4294967296^i:=by
   rw[Int.add_mul,Int.add_mul]
   congr 1
   ·rw[<-hs,Int.mul_assoc,Int.mul_assoc,Int.mul_left_comm q,Int.mul_comm q p]
   ·rw[Int.mul_right_comm,Int.mul_comm (x0 / p)]
  have s2:x0*4294967296^i=(p*(x0 / p))*4294967296^i+x0 % p*4294967296^i:=by
   rw[<-Int.add_mul,<-d0]
  omega
 ·obtain rfl:i=a.length:=om
  refine h out hw hlen ?_
  have a1:=bG hw
  have a2:=bG ha
  rw[hlen] at a1
  rw[lz (Nat.le_refl a.length),Int.zero_emod,Int.zero_mul,<-a2,<-a1] at hpv
  have hr0:0<=a.getD 0 0 % p:=Int.emod_nonneg _ om
  have hr1:a.getD 0 0 % p<p:=Int.emod_lt_of_pos _ hpp
  have e:(val a:Int) / p=val out:=by
   have:(val a:Int)=p*val out+a.getD 0 0 % p:=by rw[Int.mul_comm];omega
   rw[this,Int.add_comm,Int.add_mul_ediv_left _ _ om,Int.ediv_eq_zero_of_lt hr0 hr1];omega
  have e2:((val a / 2^n:Nat):Int)=(val a:Int) / p:=by rw[<-hp];simp
  omega
theorem oF {a:List Int} {b:Int} {Q:List Int->Int->Prop} (ha:Words a) (la:SM a) (hb0:0<b) (hb1:b<4294967296) (h:Q (lim (val a / b.toNat)) ((val a % b.toNat:Nat):Int)):fr a b Q:=by
 unfold SM at la
 unfold fr
 rw[wrap_u64_id om om]
 refine⟨m4 om la,by unfold rng;omega,λy=>∃j:Nat,y.2.1=(j:Int)-1/\j<=a.length/\y.2.2.length=a.length/\Words y.2.2/\(∀k,k<j->y.2.2.getD k 0=0)/\0<=y.1/\y.1<b/\pv y.2.2 a.length*b+y.1*4294967296^j=pv a a.length-pv a j,
  λy=>(y.2.1+1).toNat,⟨a.length,rfl,by omega,by simp[eN],Words.rep _,λk hk=>?_,by omega,hb0,?_⟩,?_⟩
 ·show(List.replicate a.length (0:Int)).getD k 0=0
  rw[List.getD_eq_getElem?_getD,List.getElem?_replicate];split<;>rfl
 ·show pv (List.replicate a.length (0:Int)) a.length*b+0*_=_
  rw[mf];simp
 rintro⟨r,x,out⟩ ⟨j,hx,hj,hlen,hw,hz,hr0,hr1,hpv⟩
 simp only at hx hj hlen hw hz hr0 hr1 hpv
 subst hx
 have hj1:((j:Int)-1).toNat=j-1:=om
 refine condT (λhc=>⟨⟨by omega,by omega⟩,?_⟩) (λhc=>?_)
 ·obtain⟨i,rfl⟩:∃i,j=i+1:=⟨j-1,by omega⟩
  have ei:((i+1:Nat):Int)-1=(i:Int):=om
  have h0:=ha i
  have e32:(2:Int)^Int.toNat 32=4294967296:=rfl
  rw[ei,d9,e32,wrap_u64_id om om,wrap_u64_id om om,pK 32 h0.1 h0.2 om (by show _ % 4294967296=0;omega) om]
  refine eY ⟨by omega,⟨by omega,by omega⟩,by omega,by unfold rng;omega,?_,by dsimp only;omega⟩
  generalize hv:r*4294967296+a.getD i 0=v
  have hv0:0<=v:=om
  rw[Int.tdiv_eq_ediv_of_nonneg hv0,Int.tmod_eq_emod_of_nonneg hv0,dK]
  have hq0:0<=v / b:=Int.ediv_nonneg hv0 om
  have hq1:v / b<4294967296:=by
   rw[Int.ediv_lt_iff_lt_mul hb0,<-hv]
   have:r*4294967296<=(b-1)*4294967296:=Int.mul_le_mul_of_nonneg_right om om
   omega
  rw[wrap_u64_id hq0 om,wrap_u32]
  have hqm:v / b % 4294967296=v / b:=om
  rw[hqm]
  refine⟨i,rfl,by omega,by simp[hlen],hw.set _ hq0 hq1,λk hk=>?_,Int.emod_nonneg _ om,Int.emod_lt_of_pos _ hb0,?_⟩
  ·show(out.set i _).getD k 0=0
   rw[bK om];exact hz k om
  ·show pv (out.set i (v / b)) a.length*b+v % b*_=_
   rw[ey om a.length om,hz i om,Int.sub_zero,Int.add_mul]
   rw[pv,Int.pow_succ] at hpv
   have d0:v=b*(v / b)+v % b:=(Int.mul_ediv_add_emod v b).symm
   have s1:v / b*4294967296^i*b+v % b*4294967296^i=v*4294967296^i:=by
    rw[Int.mul_right_comm,<-Int.add_mul,Int.mul_comm (v / b),<-d0]
   have s2:v*4294967296^i=r*(4294967296^i*4294967296)+a.getD i 0*4294967296^i:=by
    rw[<-hv,Int.add_mul,Int.mul_assoc,Int.mul_comm 4294967296]
   omega
 ·obtain rfl:j=0:=om
  refine bC hw (by unfold SM;omega) ?_
  have a1:=bG hw
  have a2:=bG ha
  rw[hlen] at a1
  simp only[pv,Int.pow_zero,Int.mul_one,Int.sub_zero] at hpv
  rw[<-a1,<-a2] at hpv
  obtain⟨c,rfl⟩:∃c:Nat,b=c:=⟨b.toNat,by omega⟩
  rw[Int.toNat_natCast] at h
  have hq:val a / c=val out:=by
   have:val a=c*val out+r.toNat:=by
    have:((val a:Nat):Int)=((c*val out+r.toNat:Nat):Int):=by
     rw[Int.natCast_add,Int.natCast_mul,Int.mul_comm];omega
    omega
   rw[this,Nat.add_comm,Nat.add_mul_div_left _ _ om,Nat.div_eq_of_lt om];omega
  have hm:val a % c=r.toNat:=by
   have:val a=c*val out+r.toNat:=by
    have:((val a:Nat):Int)=((c*val out+r.toNat:Nat):Int):=by
     rw[Int.natCast_add,Int.natCast_mul,Int.mul_comm];omega
    omega
   rw[this,Nat.add_comm,Nat.add_mul_mod_self_left,Nat.mod_eq_of_lt om]
  rw[hq,hm] at h
  rw[wrap_u32]
  have e:r % 4294967296=((r.toNat:Nat):Int):=om
  rw[e]
  exact h
end Go.Gg
namespace Go.Gg
theorem m3 {n:Int} {Q:List Int->Prop} (h1:n<=9223372036854775807) (h:Q (lim n.toNat)):iG n Q:=by
 refine condT (λhc=>?_) (λhc=>?_)
 ·have:n.toNat=0:=om
  rw[this,cB] at h;exact h
 ·have e32:(2:Int)^Int.toNat 32=4294967296:=rfl
  rw[e32,wrap_u32,wrap_u32]
  have hw:Words [n % 4294967296,n / 4294967296 % 4294967296]:=(Words.nil.cons om om).cons om om
  refine bC hw (by simp[SM]) ?_
  have hv:val [n % 4294967296,n / 4294967296 % 4294967296]=n.toNat:=by
   rw[gS hw,gS hw.tail,j0];omega
  rw[hv];exact h
theorem v8 {a:List Int} (ha:Words a) {i:Nat} (hz:∀k,i<k->k<a.length->a.getD k 0=0) (hi:i<a.length) (hn:a.getD i 0≠0):(bt (val a):Int)=32*i+bt (a.getD i 0).toNat:=by
 have h0:=ha i
 have a1:=bG ha
 rw[j9 (j:=i+1) a.length hi (λk h1 h2=>hz k om h2),pv] at a1
 obtain⟨b1,b2⟩:=bd ha i
 obtain⟨x,hx⟩:∃x:Nat,a.getD i 0=x:=⟨(a.getD i 0).toNat,by omega⟩
 rw[hx] at a1 hn h0 ⊢
 rw[Int.toNat_natCast]
 have hx0:x≠0:=om
 have c1:=lD (n:=x)
 have c2:=kh hx0
 have hb:bt x≠0:=by unfold bt;rw[if_neg hx0];omega
 have ew:((4294967296^i:Nat):Int)=(4294967296:Int)^i:=by simp
 have e1:val a=(pv a i).toNat+x*4294967296^i:=by
  have:(val a:Int)=(((pv a i).toNat+x*4294967296^i:Nat):Int):=by
   rw[a1,Int.natCast_add,Int.natCast_mul,ew];omega
  omega
 have hlt:(pv a i).toNat<4294967296^i:=om
 have hpw:(4294967296:Nat)^i=2^(32*i):=by rw[Nat.pow_mul]
 have:bt (val a)=32*i+bt x:=by
  refine nX ?_ (λ_=>?_)
  ·rw[e1,Nat.pow_add,<-hpw]
   have:(x+1)*4294967296^i<=2^bt x*4294967296^i:=Nat.mul_le_mul_right _ c1
   rw[Nat.add_mul,Nat.mul_comm (2^bt x)] at this
   omega
  ·have e:32*i+bt x-1=32*i+(bt x-1):=om
   rw[e1,e,Nat.pow_add,<-hpw]
   have:2^(bt x-1)*4294967296^i<=x*4294967296^i:=Nat.mul_le_mul_right _ c2
   rw[Nat.mul_comm (2^(bt x-1))] at this
   omega
 omega
theorem pO {a:List Int} {Q:Int->Prop} (ha:Words a) (la:SM a) (h:Q (bt (val a))):i6 a Q:=by
 unfold SM at la
 refine⟨by unfold rng;omega,λx=>∃j:Nat,x=(j:Int)-1/\j<=a.length/\∀k,j<=k->k<a.length->a.getD k 0=0,λx=>(x+1).toNat,⟨a.length,rfl,by omega,λk h1 h2=>om⟩,?_⟩
 rintro _ ⟨j,rfl,hj,hz⟩
 refine condT (λhc=>⟨⟨by omega,by omega⟩,?_⟩) (λhc=>?_)
 ·obtain⟨i,rfl⟩:∃i,j=i+1:=⟨j-1,by omega⟩
  have ei:((i+1:Nat):Int)-1=(i:Int):=om
  rw[ei,d9]
  have h0:=ha i
  refine eD (λhn=>⟨by unfold rng;omega,⟨by omega,by omega⟩,?_⟩) (λhe=>⟨by unfold rng;omega,⟨i,rfl,by omega,λk h1 h2=>?_⟩,by dsimp only;omega⟩)
  ·have hb:=v8 ha (λk h1 h2=>hz k om h2) om hn
   obtain⟨x,hx⟩:∃x:Nat,a.getD i 0=x:=⟨(a.getD i 0).toNat,by omega⟩
   rw[hx] at hb ⊢
   rw[Int.toNat_natCast] at hb
   have h32:=lE (x:=x) om
   refine uT om ⟨by unfold rng;omega,?_⟩
   rw[<-hb];exact h
  ·by_cases hk:k=i
   ·subst hk;exact he
   ·exact hz k om h2
 ·obtain rfl:j=0:=om
  have:val a=0:=by
   have a1:=bG ha
   rw[j9 (j:=0) a.length om (λk h1 h2=>hz k h1 h2)] at a1
   simp only[pv] at a1;omega
  rw[this,rl] at h
  exact h
theorem d7 {l:List Int} {j i:Nat}:(l.drop j).getD i 0=l.getD (j+i) 0:=by
 rw[List.getD_eq_getElem?_getD,List.getD_eq_getElem?_getD,List.getElem?_drop]
theorem og {l:List Int} {o i:Nat} {x:Int} (h:o+i<l.length):pv ((l.set (o+i) x).drop o) (i+1)=pv (l.drop o) i+x*4294967296^i:=by
 rw[pv,d7,gQ h]
 congr 1
 exact gW i (λk hk=>by rw[d7,d7,bK om])
theorem pM {u v:List Int} {o n:Nat} {g:Int} {Q:List Int->Bool->Prop} (hu:Words u) (hv:Words v) (lu:SM u) (ho:o+n<=u.length) (hn:v.length<n) (hg0:0<=g) (hg1:g<4294967296)
  (h:∀(w:List Int) (b:Int),Words w->w.length=u.length->(∀k,k<o\/o+n<=k->w.getD k 0=u.getD k 0)->(b=0\/b=1)->pv (w.drop o) n=pv (u.drop o) n-g*val v+b*4294967296^n->Q w (b == 1)) :
  i4 u o n v g Q:=by
 unfold SM at lu
 refine⟨λy=>∃i:Nat,y.2.2.1=i/\i<=n/\y.2.2.2.length=u.length/\Words y.2.2.2/\(∀k,k<o\/o+i<=k->y.2.2.2.getD k 0=u.getD k 0)/\0<=y.1/\y.1<4294967296/\0<=y.2.1/\y.2.1<=1/\0<=g*pv v i-y.1*4294967296^i/\g*pv v i-y.1*4294967296^i<4294967296^i/\
   pv (y.2.2.2.drop o) i=pv (u.drop o) i-(g*pv v i-y.1*4294967296^i)+y.2.1*4294967296^i,λy=>n-y.2.2.1.toNat,
  ⟨0,rfl,by omega,rfl,hu,λ_ _=>rfl,Int.le_refl 0,by show(0:Int)<4294967296;omega,Int.le_refl 0,by show(0:Int)<=1;omega,by simp[pv],by simp[pv],by simp[pv]⟩,?_⟩
 rintro⟨c,b,x,w⟩ ⟨i,hx,hi,hlen,hw,hz,hc0,hc1,hb0,hb1,hl0,hl1,hpv⟩
 simp only at hx hi hlen hw hz hc0 hc1 hb0 hb1 hl0 hl1 hpv
 subst hx
 have hvi:=hv i
 have hwi:=hw (o+i)
 have eoi:(o:Int)+(i:Int)=((o+i:Nat):Int):=om
 refine condT (λhlt=>cP hv ?_) (λhge=>?_)
 ·have hm0:0<=g*v.getD i 0:=Int.mul_nonneg hg0 hvi.1
  have hm1:g*v.getD i 0<=4294967295*4294967295:=Int.mul_le_mul om om hvi.1 om
  rw[wrap_u64_id hm0 om,wrap_u64_id om om]
  refine eY ⟨⟨by omega,hlt⟩,by omega,?_⟩
  rw[eoi,d9]
  generalize hc':c+g*v.getD i 0=d at *
  rw[wrap_u64_id hwi.1 om,wrap_u32,wrap_u64_id (m:=d % 4294967296) om om]
  obtain⟨q1,q2,q3⟩:=o7 (w.getD (o+i) 0) (d % 4294967296) b hwi om ⟨hb0,hb1⟩
  refine eY ⟨⟨by omega,hlt⟩,by omega,by unfold rng;omega,?_,by dsimp only;omega⟩
  generalize IntKind.u64.wrap (IntKind.u64.wrap (w.getD (o+i) 0-d % 4294967296)-b)=e at *
  have e63:e / 2^Int.toNat 63=e / 9223372036854775808:=rfl
  have e32:d / 2^Int.toNat 32=d / 4294967296:=rfl
  rw[e63,e32,dK,wrap_u32]
  have hP:=dk i
  have p1:pv (u.drop o) (i+1)=pv (u.drop o) i+w.getD (o+i) 0*4294967296^i:=by rw[pv,d7,hz (o+i) om]
  have p2:g*pv v (i+1)=g*pv v i+g*v.getD i 0*4294967296^i:=by rw[pv,Int.mul_add,Int.mul_assoc]
  have p3:=Int.pow_succ (4294967296:Int) i
  have p0:=og (l:=w) (o:=o) (i:=i) (x:=e % 4294967296) om
  generalize (4294967296:Int)^i=P at *
  have s1:=jh d P
  have s3:d*P=c*P+g*v.getD i 0*P:=by rw[<-hc',Int.add_mul]
  have s5:d % 4294967296*P<=4294967295*P:=Int.mul_le_mul_of_nonneg_right om om
  have s6:0<=d % 4294967296*P:=Int.mul_nonneg om om
  refine⟨i+1,rfl,by omega,by simp[hlen],hw.set _ om om,λk hk=>?_,by show 0<=d / 4294967296;omega,by show d / 4294967296<4294967296;omega,q2,q3,?_,?_,?_⟩
  ·show(w.set (o+i) _).getD k 0=_
   rw[bK om];exact hz k om
  ·show 0<=g*pv v (i+1)-d / 4294967296*4294967296^(i+1)
   rw[p2,p3];omega
  ·show g*pv v (i+1)-d / 4294967296*4294967296^(i+1)<4294967296^(i+1)
   rw[p2,p3];omega
  ·show pv ((w.set (o+i) (e % 4294967296)).drop o) (i+1)=pv (u.drop o) (i+1)-(g*pv v (i+1)-d / 4294967296*4294967296^(i+1))+e / 9223372036854775808*4294967296^(i+1)
   rw[p0,hpv,p1,p2,p3]
   have s0:e % 4294967296=w.getD (o+i) 0-d % 4294967296-b+4294967296*(e / 9223372036854775808):=om
   rw[s0]
   generalize e / 9223372036854775808=b' at *
   have s4:(w.getD (o+i) 0-d % 4294967296-b+4294967296*b')*P=w.getD (o+i) 0*P-d % 4294967296*P-b*P+b'*(P*4294967296):=by
    rw[Int.add_mul,Int.sub_mul,Int.sub_mul,Int.mul_comm 4294967296 b',Int.mul_assoc b',Int.mul_comm 4294967296 P]
   rw[s4]
   generalize d / 4294967296=d' at *
   generalize d % 4294967296=d'' at *
   clear q1 q2 q3 s0 s4 s5 s6 hpv
   omega
 ·obtain rfl:i=n:=om
  refine h w b hw hlen hz om ?_
  have a1:=cT hv (i:=i) om
  have hc:c=0:=by
   have hv1:=cT hv (i:=i-1) om
   have hb':=(bd hv (i-1)).2
   have hw0:=bd hw 0
   obtain⟨m,rfl⟩:∃m,i=m+1:=⟨i-1,by omega⟩
   rw[Nat.add_sub_cancel] at hv1 hb'
   have hP:=dk m
   rw[Int.pow_succ] at hpv
   have hgv:g*pv v (m+1)<=4294967295*(4294967296^m-1):=by
    rw[<-a1,hv1]
    exact Int.mul_le_mul om om (bd hv m).1 om
   rw[Int.pow_succ] at hl0
   generalize (4294967296:Int)^m=P at *
   rcases Int.lt_or_le 0 c with hc | hc
   ·have:1*(P*4294967296)<=c*(P*4294967296):=Int.mul_le_mul_of_nonneg_right om om
    omega
   ·omega
  subst hc
  rw[a1]
  rw[hpv];omega
theorem pN {u v:List Int} {o n:Nat} {Q:List Int->Prop} (hu:Words u) (hv:Words v) (lu:SM u) (ho:o+n<=u.length) (hn:v.length<=n)
  (h:∀(w:List Int) (c:Int),Words w->w.length=u.length->(∀k,k<o\/o+n<=k->w.getD k 0=u.getD k 0)->(c=0\/c=1)->pv (w.drop o) n+c*4294967296^n=pv (u.drop o) n+val v->Q w) :
  i5 u o n v Q:=by
 unfold SM at lu
 refine⟨λy=>∃i:Nat,y.2.1=i/\i<=n/\y.2.2.length=u.length/\Words y.2.2/\(∀k,k<o\/o+i<=k->y.2.2.getD k 0=u.getD k 0)/\0<=y.1/\y.1<=1/\
   pv (y.2.2.drop o) i+y.1*4294967296^i=pv (u.drop o) i+pv v i,λy=>n-y.2.1.toNat,
  ⟨0,rfl,by omega,rfl,hu,λ_ _=>rfl,Int.le_refl 0,by show(0:Int)<=1;omega,by simp[pv]⟩,?_⟩
 rintro⟨c,x,w⟩ ⟨i,hx,hi,hlen,hw,hz,hc0,hc1,hpv⟩
 simp only at hx hi hlen hw hz hc0 hc1 hpv
 subst hx
 have hvi:=hv i
 have hwi:=hw (o+i)
 have eoi:(o:Int)+(i:Int)=((o+i:Nat):Int):=om
 refine condT (λhlt=>⟨⟨by omega,hlt⟩,by omega,v.getD i 0,cP hv rfl,⟨by omega,hlt⟩,by omega,?_⟩) (λhge=>?_)
 ·rw[eoi,d9,wrap_u64_id hwi.1 om,wrap_u64_id (m:=w.getD (o+i) 0+v.getD i 0) om om,wrap_u64_id om om]
  refine eY ⟨by unfold rng;omega,?_,by dsimp only;omega⟩
  have e32:∀d:Int,d / 2^Int.toNat 32=d / 4294967296:=λ_=>rfl
  rw[e32,dK,wrap_u32]
  generalize hd:c+(w.getD (o+i) 0+v.getD i 0)=d
  refine⟨i+1,rfl,by omega,by simp[hlen],hw.set _ om om,λk hk=>?_,by show 0<=d / 4294967296;omega,by show d / 4294967296<=1;omega,?_⟩
  ·show(w.set (o+i) _).getD k 0=_
   rw[bK om];exact hz k om
  ·show pv ((w.set (o+i) (d % 4294967296)).drop o) (i+1)+d / 4294967296*4294967296^(i+1)=pv (u.drop o) (i+1)+pv v (i+1)
   have p0:=og (l:=w) (o:=o) (i:=i) (x:=d % 4294967296) om
   have p1:pv (u.drop o) (i+1)=pv (u.drop o) i+w.getD (o+i) 0*4294967296^i:=by rw[pv,d7,hz (o+i) om]
   have p2:pv v (i+1)=pv v i+v.getD i 0*4294967296^i:=by rw[pv]
   rw[p0,p1,p2,Int.pow_succ]
   have s1:=jh d (4294967296^i)
   have s3:d*4294967296^i=c*4294967296^i+(w.getD (o+i) 0*4294967296^i+v.getD i 0*4294967296^i):=by rw[<-hd,Int.add_mul,Int.add_mul]
   omega
 ·obtain rfl:i=n:=om
  have a1:=cT hv (i:=i) om
  exact h w c hw hlen hz om (by rw[a1];exact hpv)
end Go.Gg
namespace Go.Gg
theorem gA {a b c:Nat} (h:a+b=c):(2:Int)^a*2^b=2^c:=by rw[<-Int.pow_add,h]
theorem tB {V P B top nx vl head th pl g:Int} (hV:V=(top*4294967296+nx)*B+vl) (hvl:0<=vl) (hP:P=(head*4294967296+th)*B+pl) (hpl:pl<B) (hB:0<B) (hg:0<=g)
  (h:head*4294967296+th<g*(top*4294967296+nx)):P<g*V:=by
 have h1:(head*4294967296+th+1)*B<=g*(top*4294967296+nx)*B:=Int.mul_le_mul_of_nonneg_right om om
 have h2:0<=g*vl:=Int.mul_nonneg hg hvl
 rw[hV,Int.mul_add,<-Int.mul_assoc]
 rw[Int.add_mul] at h1
 omega
theorem tC {V P B top nx vl head th pl g:Int} (hV:V=(top*4294967296+nx)*B+vl) (hvl0:0<=vl) (hvl:vl<B) (hP:P=(head*4294967296+th)*B+pl) (hpl:0<=pl) (hg0:0<=g) (hg:g<4294967296) (hVB:4294967296*B<=V)
  (h:g*(top*4294967296+nx)<=head*4294967296+th):(g-1)*V<=P:=by
 have h1:g*(top*4294967296+nx)*B<=(head*4294967296+th)*B:=Int.mul_le_mul_of_nonneg_right h om
 have h2:g*vl<=4294967296*B:=Int.mul_le_mul om om hvl0 om
 rw[Int.sub_mul,hV,Int.mul_add,<-Int.mul_assoc]
 rw[<-hV]
 omega
theorem jO {l:List Int} {i:Nat}:∀n,pv l (i+n)=pv l i+pv (l.drop i) n*4294967296^i
 | 0=>by simp[pv]
 | n+1=>by
  rw[<-Nat.add_assoc,pv,jO n,pv,d7,Int.add_mul,Int.pow_add,Int.mul_assoc (l.getD (i+n) 0),Int.mul_comm (4294967296^n)]
  omega
theorem rM {l m:List Int} {i n:Nat} (h:∀k,k<i\/i+n<=k->l.getD k 0=m.getD k 0):∀M,i+n<=M->pv l M-pv m M=(pv (l.drop i) n-pv (m.drop i) n)*4294967296^i
 | 0,hM=>by
  have h1:i=0:=om
  have h2:n=0:=om
  subst h1 h2
  simp[pv]
 | M+1,hM=>by
  by_cases he:i+n=M+1
  ·rw[<-he,jO,jO,gW i (λk hk=>h k (.inl hk)),Int.sub_mul];omega
  ·rw[pv,pv,h M (.inr om)]
   have:=rM h M om
   omega
theorem rS {n:Nat} (h:n≠0):(lim n).getD ((lim n).length-1) 0≠0:=by
 induction n using Nat.strongRecOn with
 | _ n ih=>
  rw[dQ om]
  simp only[List.length_cons,Nat.add_sub_cancel]
  by_cases h0:n / 4294967296=0
  ·rw[h0,cB];simp;omega
  ·have h1:=ih _ (Nat.div_lt_self om om) h0
   have h2:(lim (n / 4294967296)).length≠0:=by rw[dQ om];simp
   obtain⟨k,hk⟩:∃k,(lim (n / 4294967296)).length=k+1:=⟨_,(Nat.succ_pred_eq_of_ne_zero h2).symm⟩
   rw[hk] at h1 ⊢
   simpa using h1
theorem uh {top nx hd1 hd2 th V P B vl pl:Int} {next3:Int->Prop} {G1 G2 G3:Prop} (hG1:G1) (hG2:G2) (hG3:G3) (htop0:2147483648<=top) (htop:top<4294967296) (hnx:0<=nx/\nx<4294967296) (h1:0<=hd1/\hd1<=top) (h2:0<=hd2/\hd2<4294967296) (h3:0<=th/\th<4294967296)
  (hV:V=(top*4294967296+nx)*B+vl) (hvl:0<=vl/\vl<B) (hP:P=((hd1*4294967296+hd2)*4294967296+th)*B+pl) (hpl:0<=pl/\pl<B) (hB:0<B) (hPV:P<V*4294967296)
  (hn:∀g,0<=g->g<4294967296->P<(g+1)*V->(g-1)*V<=P->next3 g) :
  bg (σ:=Int×Int) (IntKind.u64.wrap (Int.tdiv (hd1*4294967296+hd2) top),Int.tmod (hd1*4294967296+hd2) top) λ⟨guess2,rest⟩ next4=>
   cq (α:=Unit) (λnext5=>aj (decide (4294967296<=guess2)) (next5 ()) (G1/\G2/\G3/\aj (decide (bits .or .u64 (IntKind.u64.wrap (rest*4294967296)) th<IntKind.u64.wrap (guess2*nx))) (next5 ()) (next3 guess2)))
    λ_=>h9 (IntKind.u64.wrap (rest+top)) λrest1=>aj (decide (4294967296<=rest1)) (next3 (IntKind.u64.wrap (guess2-1))) (next4 (IntKind.u64.wrap (guess2-1),rest1)):=by
 have hhd0:0<=hd1*4294967296+hd2:=om
 have hVB:4294967296*B<=V:=by
  have:4294967296*B<=(top*4294967296+nx)*B:=Int.mul_le_mul_of_nonneg_right om om
  omega
 generalize hhd:hd1*4294967296+hd2=head at *
 have hhead:head<=top*4294967296+4294967295:=om
 have hq0:0<=head / top:=Int.ediv_nonneg hhd0 om
 have hr0:0<=head % top:=Int.emod_nonneg _ om
 have hr1:head % top<top:=Int.emod_lt_of_pos _ om
 have hde:head=top*(head / top)+head % top:=(Int.mul_ediv_add_emod head top).symm
 have hqu:head / top<4294967298:=by
  rw[Int.ediv_lt_iff_lt_mul om];omega
 rw[Int.tdiv_eq_ediv_of_nonneg hhd0,Int.tmod_eq_emod_of_nonneg hhd0,wrap_u64_id hq0 om]
 refine⟨λy=>0<=y.1/\y.1<4294967298/\0<=y.2/\y.2<4294967296/\head=y.1*top+y.2/\P<(y.1+1)*V,λy=>y.1.toNat,⟨hq0,hqu,hr0,by show head % top<_;omega,by show head=head / top*top+head % top;rw[Int.mul_comm];exact hde,?_⟩,?_⟩
 ·show P<(head / top+1)*V
  refine tB hV hvl.1 hP hpl.2 hB om ?_
  have a1:(head / top+1)*top=top*(head / top)+top:=by rw[Int.add_mul,Int.mul_comm];omega
  have a2:(head / top+1)*(top*4294967296+nx)=(head / top+1)*top*4294967296+(head / top+1)*nx:=by rw[Int.mul_add,Int.mul_assoc]
  have a3:0<=(head / top+1)*nx:=Int.mul_nonneg om hnx.1
  omega
 rintro⟨g,r⟩ ⟨hg0,hg1,hr0,hr1,hh,hU⟩
 simp only at hg0 hg1 hr0 hr1 hh hU
 have hexp:g*(top*4294967296+nx)=(g*top)*4294967296+g*nx:=by rw[Int.mul_add,Int.mul_assoc]
 refine⟨λ_=>P<g*V,condT (λhc=>?_) (λhc=>⟨hG1,hG2,hG3,?_⟩),λ_ hlt=>?_⟩
 ·have:V*4294967296<=g*V:=by rw[Int.mul_comm V];exact Int.mul_le_mul_of_nonneg_right hc om
  omega
 ·have hgn0:0<=g*nx:=Int.mul_nonneg hg0 hnx.1
  have hgn1:g*nx<=4294967295*4294967295:=Int.mul_le_mul om om hnx.1 om
  rw[wrap_u64_id (m:=r*4294967296) om om,wrap_u64_id hgn0 om,pK 32 h3.1 h3.2 om (by show _ % 4294967296=0;omega) om]
  refine condT (λhgt=>?_) (λhle=>?_)
  ·exact tB hV hvl.1 hP hpl.2 hB hg0 om
  ·exact hn g hg0 om hU (tC hV hvl.1 hvl.2 hP hpl.1 hg0 om hVB om)
 ·have hg1':1<=g:=by
   rcases Int.lt_or_le g 1 with h | h
   ·have:g=0:=om
    subst this
    have hP0:0<=P:=by
     rw[hP]
     have:0<=(head*4294967296+th)*B:=Int.mul_nonneg om om
     omega
    simp at hlt;omega
   ·exact h
  rw[wrap_u64_id (m:=r+top) om om,wrap_u64_id (m:=g-1) om om]
  have hsub:(g-1)*top=g*top-top:=by rw[Int.sub_mul];omega
  have hexp2:(g-1)*(top*4294967296+nx)=((g-1)*top)*4294967296+(g-1)*nx:=by rw[Int.mul_add,Int.mul_assoc]
  refine eY (condT (λhc=>?_) (λhc=>⟨⟨by show 0<=g-1;omega,by show g-1<_;omega,by show 0<=r+top;omega,by show r+top<_;omega,by show head=(g-1)*top+(r+top);omega,by show P<(g-1+1)*V;rw[Int.sub_add_cancel];exact hlt⟩,by show(g-1).toNat<g.toNat;omega⟩))
  have hgW:g-1<4294967296:=by
   rcases Int.lt_or_le (g-1) 4294967296 with h | h
   ·exact h
   ·have:4294967296*top<=(g-1)*top:=Int.mul_le_mul_of_nonneg_right h om
    omega
  have hgn1:(g-1)*nx<=4294967295*4294967295:=Int.mul_le_mul om om hnx.1 om
  refine hn (g-1) om hgW (by rw[Int.sub_add_cancel];exact hlt) (tC hV hvl.1 hvl.2 hP hpl.1 om hgW hVB om)
set_option maxHeartbeats 2000000 in
theorem jF {a b:List Int} {Q:List Int->List Int->Option Int->Prop} (ha:Words a) (hb:Words b) (la:a.length<=1099511627774) (lb:b.length<=1099511627774)
  (h0:val b=0->Q [] [] (some 8)) (h:val b≠0->Q (lim (val a / val b)) (lim (val a % val b)) none):fk a b Q:=by
 refine bC ha (by unfold SM;omega) (bC hb (by unfold SM;omega) ?_)
 have b1:=cG ha
 have b2:=cG hb
 have w1:=aq (val a)
 have w2:=aq (val b)
 have v1:=aC (val a)
 have v2:=aC (val b)
 refine bS (λhc=>?_) (λhc=>?_)
 ·have:(lim (val b)).length=0:=om
  have:lim (val b)=[]:=List.eq_nil_of_length_eq_zero this
  rw[this,j0] at v2
  exact h0 v2.symm
 have hB:val b≠0:=by intro hh;rw[hh,cB] at hc;exact hc rfl
 replace h:=h hB
 clear h0
 refine d6 w1 w2 (by unfold SM;omega) (by unfold SM;omega) ?_
 rw[v1,v2]
 refine condT (λhlt=>?_) (λhge=>bS (λh1=>?_) (λh1=>?_))
 ·have:=iJ.1 hlt
  rw[Nat.div_eq_of_lt this,Nat.mod_eq_of_lt this,cB] at h
  exact h
 ·
  have hl1:(lim (val b)).length=1:=om
  have hw0:=w2 0
  have hbv:(val b:Int)=(lim (val b)).getD 0 0:=by
   have:=bG w2
   rw[v2,hl1] at this
   simpa[pv] using this
  refine⟨⟨by omega,by omega⟩,?_⟩
  have e0:at' (lim (val b)) 0=(val b:Int):=by rw[hbv];rfl
  rw[e0]
  have hm:val a % val b<val b:=Nat.mod_lt _ om
  refine oF w1 (by unfold SM;omega) om om ?_
  rw[v1,Int.toNat_natCast,fT (by unfold rng;omega)]
  refine m3 om ?_
  rw[Int.toNat_natCast]
  exact h
 obtain⟨m,hm⟩:∃m,(lim (val b)).length=m+2:=⟨(lim (val b)).length-2,by omega⟩
 have hge':val b<=val a:=by
  rcases Nat.lt_or_ge (val a) (val b) with hh | hh
  ·exact absurd (iJ.2 hh) hge
  ·exact hh
 have hlen:m+2<=(lim (val a)).length:=by rw[<-hm];exact b6 hge'
 generalize hA:val a=A at *
 generalize hBv:val b=B at *
 have htop:=rS hB
 have hbd:(val (lim B):Int)=_:=bG w2
 rw[v2] at hbd
 have hAp:(A:Int)<4294967296^(lim A).length:=by
  have:=(bd w1 (lim A).length).2
  have e:=bG w1
  rw[v1] at e;omega
 generalize hla:lim A=al at *
 generalize hlb:lim B=bl at *
 rw[hm] at htop hbd
 have e21:m+2-1=m+1:=om
 rw[e21] at htop
 have hwt:=w2 (m+1)
 have hml:(bl.length:Int)-1=((m+1:Nat):Int):=om
 rw[hml]
 obtain⟨tp,htp⟩:∃x:Nat,bl.getD (m+1) 0=x:=⟨(bl.getD (m+1) 0).toNat,by omega⟩
 refine⟨by unfold rng;omega,⟨by omega,by omega⟩,?_⟩
 rw[d9,htp]
 rw[htp] at htop hwt
 have htp0:tp≠0:=om
 have c1:=lD (n:=tp)
 have c2:=kh htp0
 have c3:=lE (x:=tp) om
 have c4:bt tp≠0:=by unfold bt;rw[if_neg htp0];omega
 refine zn om ?_
 obtain⟨s,hs⟩:∃s,32-bt tp=s:=⟨_,rfl⟩
 rw[hs]
 have hs31:s<=31:=om
 refine kU w2 om om (λr4 hr4 hr4l hr4v=>?_)
 rw[hm] at hr4l
 rw[v2] at hr4v
 refine⟨⟨by omega,by omega,by omega⟩,eY ?_⟩
 have hvl:(gn r4 0 (bl.length:Int))=r4.take (m+2):=by
  show(r4.drop 0).take (((bl.length:Nat):Int).toNat-0)=_
  rw[Int.toNat_natCast,hm];rfl
 rw[hvl]
 have hvlen:(r4.take (m+2)).length=m+2:=by rw[List.length_take,hr4l];omega
 have hPm:=dk m
 have ew:(4294967296:Int)^(m+2)=4294967296^m*4294967296*4294967296:=by rw[Int.pow_succ,Int.pow_succ]
 have ew1:(4294967296:Int)^(m+1)=4294967296^m*4294967296:=Int.pow_succ ..
 have hbd2:(B:Int)=pv bl m+bl.getD m 0*4294967296^m+tp*(4294967296^m*4294967296):=by rw[hbd,pv,pv,htp,ew1]
 have hbm:=bd w2 m
 have hbm1:=w2 m
 have hlow:bl.getD m 0*4294967296^m<=4294967295*4294967296^m:=Int.mul_le_mul_of_nonneg_right om om
 have hlow0:0<=bl.getD m 0*4294967296^m:=Int.mul_nonneg hbm1.1 om
 have hps:=dx s
 have hts:(tp:Int)*2^s<4294967296/\2147483648<=(tp:Int)*2^s:=by
  have e1:(2:Int)^(bt tp)*2^s=4294967296:=gA (c:=32) om
  have e2:(2:Int)^(bt tp-1)*2^s=2147483648:=gA (c:=31) om
  have f1:(tp:Int)+1<=2^(bt tp):=by exact_mod_cast c1
  have f2:(2:Int)^(bt tp-1)<=tp:=by exact_mod_cast c2
  have g1:((tp:Int)+1)*2^s<=2^(bt tp)*2^s:=Int.mul_le_mul_of_nonneg_right f1 om
  have g2:(2:Int)^(bt tp-1)*2^s<=tp*2^s:=Int.mul_le_mul_of_nonneg_right f2 om
  rw[Int.add_mul] at g1
  omega
 have hVval:((val r4:Nat):Int)=(B:Int)*2^s:=by rw[hr4v];simp
 have hr4p:=bG hr4
 rw[hr4l] at hr4p
 have hVlt:(val r4:Int)<4294967296^(m+2):=by
  have k1:(B:Int)+1<=(tp+1)*(4294967296^m*4294967296):=by rw[Int.add_mul];omega
  have k2:((B:Int)+1)*2^s<=((tp+1)*(4294967296^m*4294967296))*2^s:=Int.mul_le_mul_of_nonneg_right k1 om
  have k3:(((tp:Int)+1)*2^s)<=4294967296:=by
   have f1:(tp:Int)+1<=2^(bt tp):=by exact_mod_cast c1
   have e1:(2:Int)^(bt tp)*2^s=4294967296:=gA (c:=32) om
   have g1:((tp:Int)+1)*2^s<=2^(bt tp)*2^s:=Int.mul_le_mul_of_nonneg_right f1 om
   omega
  have k4:(((tp:Int)+1)*2^s)*(4294967296^m*4294967296)<=4294967296*(4294967296^m*4294967296):=Int.mul_le_mul_of_nonneg_right k3 om
  rw[Int.mul_right_comm] at k2
  rw[Int.add_mul] at k2
  rw[hVval,ew]
  omega
 have hVge:2147483648*(4294967296^m*4294967296)<=(val r4:Int):=by
  have k1:(tp:Int)*(4294967296^m*4294967296)<=B:=om
  have k2:(tp:Int)*(4294967296^m*4294967296)*2^s<=B*2^s:=Int.mul_le_mul_of_nonneg_right k1 om
  have k3:2147483648*(4294967296^m*4294967296)<=(tp:Int)*2^s*(4294967296^m*4294967296):=Int.mul_le_mul_of_nonneg_right hts.2 om
  rw[Int.mul_right_comm] at k2
  omega
 have hVp:(val r4:Int)=pv (r4.take (m+2)) (m+2):=by
  rw[hr4p] at hVlt ⊢
  rw[uH (Nat.le_refl _)]
  exact mR hr4 om hVlt
 have hwv:Words (r4.take (m+2)):=hr4.take _
 have hvv:val (r4.take (m+2))=val r4:=by
  have:=bG hwv
  rw[hvlen,<-hVp] at this;omega
 generalize hv:r4.take (m+2)=v at *
 generalize hVV:val r4=V at *
 clear hr4 hr4l hr4p hvl
 refine kU w1 om om (λu hu hul huv=>?_)
 rw[v1] at huv
 have hvl1:(v.length:Int)-1=((m+1:Nat):Int):=om
 have hvl2:(v.length:Int)-2=(m:Int):=om
 obtain⟨K,hK⟩:∃K,al.length=K+(m+2):=⟨al.length-(m+2),by omega⟩
 have hkl:(u.length:Int)-(v.length:Int)=((K+1:Nat):Int):=om
 rw[hvl1,hvl2,hkl]
 refine⟨by unfold rng;omega,⟨by omega,by omega⟩,by unfold rng;omega,⟨by omega,by omega⟩,by unfold rng;omega,m4 om om,by unfold rng;omega,eY ?_⟩
 rw[Int.toNat_natCast]
 have hU:(val u:Int)<V*4294967296^(K+1):=by
  have k0:((val u:Nat):Int)=(A:Int)*2^s:=by rw[huv];simp
  have k1:(2:Int)^s<=2147483648:=by
   have:(2:Int)^s*2^(31-s)=2147483648:=gA (c:=31) om
   have h2:=dx (31-s)
   have:(2:Int)^s*1<=2^s*2^(31-s):=Int.mul_le_mul_of_nonneg_left om om
   omega
  have k2:(A:Int)*2^s<4294967296^al.length*2^s:=Int.mul_lt_mul_of_pos_right hAp hps
  have k3:(4294967296:Int)^al.length*2^s<=4294967296^al.length*2147483648:=Int.mul_le_mul_of_nonneg_left k1 (by have:=dk al.length;omega)
  have k4:(4294967296:Int)^al.length=4294967296^m*4294967296*4294967296^(K+1):=by
   rw[hK,<-Int.pow_succ,<-Int.pow_add];congr 1;omega
  rw[k4] at k2 k3
  have k6:(2147483648:Int)*(4294967296^m*4294967296*4294967296^(K+1))=4294967296^m*4294967296*4294967296^(K+1)*2147483648:=Int.mul_comm _ _
  have k7:(2147483648:Int)*(4294967296^m*4294967296)*4294967296^(K+1)=2147483648*(4294967296^m*4294967296*4294967296^(K+1)):=Int.mul_assoc ..
  have hPK:=dk (K+1)
  have k8:(2147483648:Int)*(4294967296^m*4294967296)*4294967296^(K+1)<=(V:Int)*4294967296^(K+1):=Int.mul_le_mul_of_nonneg_right hVge (Int.le_of_lt hPK)
  omega
 have hup:=bG hu
 have hulk:u.length=K+m+3:=om
 rw[hulk] at hup
 have hvm:=hwv m
 have hvm1:=hwv (m+1)
 have hVexp:(V:Int)=(v.getD (m+1) 0*4294967296+v.getD m 0)*4294967296^m+pv v m:=by
  rw[hVp,pv,pv,ew1,Int.add_mul,Int.mul_assoc,Int.mul_comm 4294967296];omega
 have hvlo:=bd hwv m
 have htopge:2147483648<=v.getD (m+1) 0:=by
  rcases Int.lt_or_le (v.getD (m+1) 0) 2147483648 with hh | hh
  ·exfalso
   have k1:(v.getD (m+1) 0*4294967296+v.getD m 0+1)*4294967296^m<=(2147483647*4294967296+4294967296)*4294967296^m:=Int.mul_le_mul_of_nonneg_right om om
   rw[Int.add_mul] at k1
   omega
  ·exact hh
 have hV0:0<(V:Int):=om
 refine⟨λy=>∃j:Nat,y.1=(j:Int)-1/\j<=K+1/\y.2.1.length=K+m+3/\Words y.2.1/\y.2.2.length=K+1/\Words y.2.2/\(∀k,k<j->y.2.2.getD k 0=0)/\
   (val u:Int)=pv y.2.2 (K+1)*V+pv y.2.1 (K+m+3)/\pv y.2.1 (K+m+3)<V*4294967296^j,λy=>(y.1+1).toNat,
  ⟨K+1,rfl,Nat.le_refl _,hulk,hu,by simp[eN],Words.rep _,λk hk=>?_,?_,?_⟩,?_⟩
 ·show(List.replicate (K+1) (0:Int)).getD k 0=0
  rw[List.getD_eq_getElem?_getD,List.getElem?_replicate];split<;>rfl
 ·show(val u:Int)=pv (List.replicate (K+1) (0:Int)) (K+1)*V+pv u (K+m+3)
  rw[mf,<-hup];omega
 ·show pv u (K+m+3)<_
  rw[<-hup];exact hU
 clear hU hup hulk hul hu
 rintro⟨x,u1,q⟩ ⟨j,hx,hj,hul1,hu1,hql,hq,hqz,hsum,hrem⟩
 simp only at hx hj hul1 hu1 hql hq hqz hsum hrem
 subst hx
 refine condT (λhc=>?_) (λhc=>?_)
 ·obtain⟨i,rfl⟩:∃i,j=i+1:=⟨j-1,by omega⟩
  have ei:((i+1:Nat):Int)-1=(i:Int):=om
  have f1:(i:Int)+(v.length:Int)=((i+(m+2):Nat):Int):=om
  have f2:((i+(m+2):Nat):Int)-1=((i+(m+1):Nat):Int):=om
  have f3:((i+(m+2):Nat):Int)-2=((i+m:Nat):Int):=om
  have f4:((i+(m+2):Nat):Int)+1=((i+(m+3):Nat):Int):=om
  have f5:0+Int.toNat (i:Int)=i:=om
  have f6:Int.toNat ((i+(m+3):Nat):Int)-Int.toNat (i:Int)=m+3:=om
  have h1:=hu1 (i+(m+2))
  have h2:=hu1 (i+(m+1))
  have h3:=hu1 (i+m)
  have e32:(2:Int)^Int.toNat 32=4294967296:=rfl
  have g1:=wrap_u64_id (m:=u1.getD (i+(m+2)) 0) om om
  have g2:=wrap_u64_id (m:=u1.getD (i+(m+1)) 0) om om
  have g3:=wrap_u64_id (m:=u1.getD (i+m) 0) om om
  have g4:=wrap_u64_id (m:=v.getD (m+1) 0) om om
  have g5:=wrap_u64_id (m:=v.getD m 0) om om
  have g6:=wrap_u64_id (m:=u1.getD (i+(m+2)) 0*4294967296) om om
  have g7:=pK (x:=u1.getD (i+(m+1)) 0) (y:=u1.getD (i+(m+2)) 0*4294967296) 32 h2.1 h2.2 om (by show _ % 4294967296=0;omega) om
  simp only[ei,f1,f2,f3,f4,f5,f6,d9,e32,g1,g2,g3,g4,g5,g6,g7]
  obtain⟨P,hPd⟩:∃P,P=pv (u1.drop i) (m+3):=⟨_,rfl⟩
  have hPi:=dk i
  have hud:Words (u1.drop i):=hu1.drop i
  have hPb:=bd hud (m+3)
  have htot:pv u1 (K+m+3)=pv u1 i+P*4294967296^i:=by
   have k0:K+m+3=i+((m+3)+(K-i)):=om
   rw[k0,jO]
   congr 2
   rw[hPd]
   refine mR hud om ?_
   rw[k0,jO,Int.pow_succ] at hrem
   have k1:=(bd hu1 i).1
   have k2:pv (u1.drop i) (m+3+(K-i))*4294967296^i<(V*4294967296)*4294967296^i:=by
    rw[Int.mul_assoc,Int.mul_comm 4294967296];omega
   have k3:=Int.lt_of_mul_lt_mul_right k2 (Int.le_of_lt hPi)
   have k4:(4294967296:Int)^(m+3)=4294967296^(m+2)*4294967296:=Int.pow_succ ..
   omega
  have hPV:P<V*4294967296:=by
   have k1:=(bd hu1 i).1
   rw[htot,Int.pow_succ] at hrem
   have k2:P*4294967296^i<(V*4294967296)*4294967296^i:=by
    rw[Int.mul_assoc,Int.mul_comm 4294967296];omega
   exact Int.lt_of_mul_lt_mul_right k2 (Int.le_of_lt hPi)
  have hP0:0<=P:=by rw[hPd];exact hPb.1
  have hPexp:P=((u1.getD (i+(m+2)) 0*4294967296+u1.getD (i+(m+1)) 0)*4294967296+u1.getD (i+m) 0)*4294967296^m+pv (u1.drop i) m:=by
   rw[hPd,pv,pv,pv,d7,d7,d7,ew,ew1]
   generalize (4294967296:Int)^m=B
   generalize pv (u1.drop i) m=z
   grind
  have hhd:u1.getD (i+(m+2)) 0<=v.getD (m+1) 0:=by
   rcases Int.lt_or_le (v.getD (m+1) 0) (u1.getD (i+(m+2)) 0) with hh | hh
   ·exfalso
    have k1:(v.getD (m+1) 0+1)*(4294967296^m*4294967296*4294967296)<=u1.getD (i+(m+2)) 0*(4294967296^m*4294967296*4294967296):=Int.mul_le_mul_of_nonneg_right om om
    have k2:P=u1.getD (i+(m+2)) 0*(4294967296^m*4294967296*4294967296)+pv (u1.drop i) (m+2):=by rw[hPd,pv,d7,ew];omega
    have k3:=(bd hud (m+2)).1
    have k4:(V:Int)=v.getD (m+1) 0*(4294967296^m*4294967296)+pv v (m+1):=by rw[hVp,pv,ew1];omega
    have k5:=(bd hwv (m+1)).2
    rw[ew1] at k5
    have k6:(V:Int)*4294967296<(v.getD (m+1) 0+1)*(4294967296^m*4294967296*4294967296):=by
     rw[Int.add_mul,<-Int.mul_assoc (v.getD (m+1) 0),k4];omega
    omega
   ·exact hh
  refine⟨by unfold rng;omega,⟨by omega,by omega⟩,by unfold rng;omega,by unfold rng;omega,⟨by omega,by omega⟩,by omega,by omega,λg=>0<=g/\g<4294967296/\P<(g+1)*V/\(g-1)*V<=P,
   uh (next3:=λg=>0<=g/\g<4294967296/\P<(g+1)*V/\(g-1)*V<=P) (G1:=rng ((i+(m+2):Nat):Int)) (G2:=rng ((i+m:Nat):Int)) (G3:=(0:Int)<=((i+m:Nat):Int)/\((i+m:Nat):Int)<(u1.length:Int)) (by unfold rng;omega) (by unfold rng;omega) ⟨by omega,by omega⟩ htopge hvm1.2 hvm ⟨h1.1,hhd⟩ h2 h3 hVexp hvlo hPexp (bd hud m) hPm hPV (λg a1 a2 a3 a4=>⟨a1,a2,a3,a4⟩),?_⟩
  rintro g ⟨hg0,hg1,hgU,hgL⟩
  have hPW:(4294967296:Int)^(m+3)=4294967296^(m+2)*4294967296:=Int.pow_succ ..
  refine⟨λy=>Words y.2/\y.2.length=K+m+3/\(∀k,k<i\/i+(m+3)<=k->y.2.getD k 0=u1.getD k 0)/\0<=y.1/\y.1<4294967296/\pv (y.2.drop i) (m+3)=P-y.1*V/\P-y.1*V<V,?_,?_⟩
  ·refine⟨by unfold rng;omega,by unfold rng;omega,⟨by omega,by omega,by omega⟩,?_⟩
   refine pM hu1 hwv (by unfold SM;omega) om om hg0 hg1 (λw b hw hwl hwz hb hwp=>⟨hwl,?_⟩)
   rw[hvv,<-hPd] at hwp
   have hwd:=bd (hw.drop i) (m+3)
   have hgs:(g-1)*(V:Int)=g*V-V:=by rw[Int.sub_mul];omega
   have hga:(g+1)*(V:Int)=g*V+V:=by rw[Int.add_mul];omega
   rcases hb with rfl | rfl
   ·refine⟨λhh=>(by cases hh),λ_=>⟨hw,by show w.length=_;omega,hwz,hg0,hg1,?_,?_⟩⟩
    ·show pv (w.drop i) (m+3)=P-g*V
     omega
    ·show P-g*V<V
     omega
   ·refine⟨λ_=>⟨by unfold rng;omega,by unfold rng;omega,⟨by omega,by omega,by omega⟩,?_⟩,λhh=>by cases hh⟩
    refine pN hw hwv (by unfold SM;omega) om om (λw' c hw' hwl' hwz' hc' hwp'=>⟨hwl',?_⟩)
    rw[hvv] at hwp'
    have hwd':=bd (hw'.drop i) (m+3)
    have hg1':1<=g:=by
     rcases Int.lt_or_le g 1 with hh | hh
     ·have:g=0:=om
      subst this
      omega
     ·exact hh
    rw[wrap_u64_id (m:=g-1) om om]
    refine⟨hw',by show w'.length=_;omega,λk hk=>?_,by show 0<=g-1;omega,by show g-1<_;omega,?_,?_⟩
    ·show w'.getD k 0=_
     rw[hwz' k hk,hwz k hk]
    ·show pv (w'.drop i) (m+3)=P-(g-1)*V
     rcases hc' with rfl | rfl<;>omega
    ·show P-(g-1)*V<V
     omega
  ·rintro⟨g',u2⟩ ⟨hu2,hul2,hz2,hg0',hg1',hp2,hr2⟩
   simp only at hu2 hul2 hz2 hg0' hg1' hp2 hr2
   refine⟨⟨by omega,by omega⟩,by unfold rng;omega,⟨i,rfl,by omega,hul2,hu2,by simp[b8,hql],?_,λk hk=>?_,?_,?_⟩,by first | omega | (dsimp only;omega)⟩
   ·rw[wrap_u32,dK];exact hq.set _ om om
   ·show(b8 q (i:Int) _).getD k 0=0
    rw[dK,bK om];exact hqz k om
   ·show(val u:Int)=pv (b8 q (i:Int) (IntKind.u32.wrap g')) (K+1)*V+pv u2 (K+m+3)
    have k0:=rM hz2 (K+m+3) om
    have hgm:g' % 4294967296=g':=om
    rw[dK,wrap_u32,hgm,ey om (K+1) om,hqz i om,Int.sub_zero,hsum,Int.add_mul]
    rw[hp2,<-hPd] at k0
    have k1:(P-g'*V-P)*4294967296^i = - (g'*4294967296^i*V):=by
     have:P-g'*V-P = - (g'*V):=om
     rw[this,Int.neg_mul,Int.mul_right_comm]
    omega
   ·show pv u2 (K+m+3)<V*4294967296^i
    have k0:=rM hz2 (K+m+3) om
    rw[hp2,<-hPd,htot] at k0
    have k1:=(bd hu1 i).2
    have k2:(P-g'*V+1)*4294967296^i<=V*4294967296^i:=Int.mul_le_mul_of_nonneg_right om om
    have k3:(P-g'*V-P)*4294967296^i=(P-g'*V)*4294967296^i-P*4294967296^i:=by rw[Int.sub_mul]
    rw[Int.add_mul] at k2
    omega
 ·obtain rfl:j=0:=om
  rw[Int.pow_zero,Int.mul_one] at hrem
  have hq1:=bG hq
  have hu1v:=bG hu1
  rw[hql] at hq1
  rw[hul1] at hu1v
  rw[<-hq1,<-hu1v] at hsum
  rw[<-hu1v] at hrem
  have hsumN:val u=val q*V+val u1:=by
   have:((val u:Nat):Int)=((val q*V+val u1:Nat):Int):=by rw[Int.natCast_add,Int.natCast_mul];exact hsum
   omega
  have hVB:V=B*2^s:=hr4v
  have hps':0<2^s:=Nat.pow_pos om
  have hV0':0<V:=om
  have hdiv:A / B=val q:=by
   have k1:A*2^s / (B*2^s)=A / B:=Nat.mul_div_mul_right _ _ hps'
   rw[<-k1,<-huv,<-hVB,hsumN,Nat.add_comm,Nat.add_mul_div_right _ _ hV0',Nat.div_eq_of_lt om];omega
  have hmod:A % B=val u1 / 2^s:=by
   have k1:A*2^s % (B*2^s)=A % B*2^s:=Nat.mul_mod_mul_right _ _ _
   rw[<-huv,<-hVB,hsumN,Nat.add_comm,Nat.add_mul_mod_self_right,Nat.mod_eq_of_lt om] at k1
   rw[k1,Nat.mul_div_cancel _ hps']
  refine bC hq (by unfold SM;omega) (oG hu1 (by unfold SM;omega) om (λr hr hrl hrv=>bC hr (by unfold SM;omega) ?_))
  rw[hrv,<-hmod,<-hdiv]
  exact h
theorem lT {a b:List Int} {Q:List Int->Prop} (ha:Words a) (hb:Words b) (la:a.length<=1099511627774) (lb:b.length<=1099511627774) (h:Q (lim (Nat.gcd (val a) (val b)))):gK a b Q:=by
 refine bC ha (by unfold SM;omega) (bC hb (by unfold SM;omega) ?_)
 have b1:=cG ha
 have b2:=cG hb
 refine⟨λy=>∃m n:Nat,y=(lim m,lim n)/\(lim m).length<=1099511627774/\(lim n).length<=1099511627774/\Nat.gcd m n=Nat.gcd (val a) (val b),λy=>val y.2,⟨_,_,rfl,by omega,by omega,rfl⟩,?_⟩
 rintro _ ⟨m,n,rfl,hm,hn,hg⟩
 refine condT (λhc=>?_) (λhc=>?_)
 ·have hn0:n≠0:=by rintro rfl;rw[cB] at hc;simp at hc
  refine jF (aq m) (aq n) hm hn (λh0=>absurd (by rw[aC] at h0;exact h0) hn0) (λ_=>?_)
  rw[aC,aC]
  have hlt:=Nat.mod_lt m (Nat.pos_of_ne_zero hn0)
  refine⟨⟨n,m % n,rfl,hn,Nat.le_trans (b6 (Nat.le_of_lt hlt)) hn,?_⟩,?_⟩
  ·rw[<-hg,Nat.gcd_comm n,<-Nat.gcd_rec,Nat.gcd_comm]
  ·show val (lim (m % n))<val (lim n)
   rw[aC,aC];exact hlt
 ·have hn0:n=0:=by
   rcases Nat.eq_zero_or_pos n with h0 | h0
   ·exact h0
   ·rw[dQ h0] at hc;simp at hc
  subst hn0
  rw[Nat.gcd_zero_right] at hg
  rw[<-hg] at h
  exact h
end Go.Gg
namespace Go.Gg
theorem mQ {l:List Int} {n:Nat} {x:Int} (h:l.length=n):pv (l++[x]) (n+1)=pv l n+x*4294967296^n:=by
 rw[pv,vG om,lY om]
 have:n-l.length=0:=om
 rw[this];rfl
theorem Words.one {x:Int} (h0:0<=x) (h1:x<4294967296):Words [x]:=Words.nil.cons h0 h1
theorem qb {l:List Int} {x:Int} (h:l.length<=1099511627776):(l++[x]).length*4<=140737488355328:=by simp;omega
theorem bP {a:List Int} {i:Nat} {Q:Int->Prop} (hw:Words a) (h:Q (a.getD i 0)):bB a (i:Int) Q:=by
 refine condT (λhc=>⟨⟨by omega,hc⟩,?_⟩) (λhc=>?_)
 ·rw[d9]
  have:=hw i
  rw[wrap_u64_id om om]
  exact h
 ·rw[lz om] at h
  exact h
theorem cL {a:List Int} {Q:List Int->Prop} (hw:Words a) (hl:SM a) (h:Q (lim (val a))):ca a Q:=by
 refine⟨λn=>∃j:Nat,n=j/\j<=a.length/\(∀i,j<=i->i<a.length->a.getD i 0=0)/\(0<j->a.getD (j-1) 0≠0),?_,?_⟩
 ·refine⟨λn=>∃j:Nat,n=j/\j<=a.length/\(∀i,j<=i->i<a.length->a.getD i 0=0),λn=>n.toNat,⟨a.length,rfl,Nat.le_refl _,λi h1 h2=>om⟩,?_⟩
  rintro n ⟨j,rfl,hj,hz⟩
  refine condT (λhc=>⟨by unfold rng;omega,⟨by omega,by omega⟩,bS (λhe=>⟨by unfold rng;omega,⟨j-1,by omega,by omega,λi h1 h2=>?_⟩,by dsimp only;omega⟩) (λhe=>⟨j,rfl,hj,hz,λ_=>?_⟩)⟩) (λhc=>⟨j,rfl,hj,hz,λh0=>om⟩)
  ·by_cases hi:i=j-1
   ·subst hi
    rw[nY] at he
    have:((j:Int)-1).toNat=j-1:=om
    rwa[this] at he
   ·exact hz i om h2
  ·rw[nY] at he
   have:((j:Int)-1).toNat=j-1:=om
   rwa[this] at he
 ·rintro n ⟨j,rfl,hj,hz,hlast⟩
  have e:=m6 hw hj hz hlast
  refine⟨⟨by omega,by omega,by omega⟩,?_,?_⟩
  ·simp[gn]
   have:min j a.length<=a.length:=om
   omega
  ·rw[<-e] at h
   simpa[gn] using h
theorem kQ {a b:List Int} {Q:Int->Prop} (ha:Words a) (hb:Words b) (la:SM a) (lb:SM b) (h:Q (kg (val a) (val b))):fG a b Q:=by
 unfold SM at la lb
 obtain⟨N,hN⟩:∃N,N=max a.length b.length:=⟨_,rfl⟩
 have hNi:max (a.length:Int) (b.length:Int)=(N:Int):=om
 have v1:=cT ha (i:=N) om
 have v2:=cT hb (i:=N) om
 unfold fG
 rw[hNi]
 refine⟨by unfold rng;omega,eY ⟨λi=>∃j:Nat,i=(j:Int)-1/\j<=N/\(∀k,j<=k->k<N->a.getD k 0=b.getD k 0),λi=>(i+1).toNat,⟨N,rfl,Nat.le_refl _,λk h1 h2=>om⟩,?_⟩⟩
 rintro _ ⟨j,rfl,hj,he⟩
 refine condT (λhc=>?_) (λhc=>?_)
 ·obtain⟨i,rfl⟩:∃i,j=i+1:=⟨j-1,by omega⟩
  have ei:((i+1:Nat):Int)-1=(i:Int):=om
  rw[ei]
  refine bP ha (bP hb (condT (λh1=>?_) (λh1=>bP ha (bP hb (condT (λh2=>?_) (λh2=>⟨by unfold rng;omega,⟨i,rfl,by omega,λk h3 h4=>?_⟩,by dsimp only;omega⟩))))))
  ·have:=uI ha hb (i:=i) (n:=N) om h1 (λk h1 h2=>he k om h2)
   rw[kg,if_pos om] at h;exact h
  ·have:=uI hb ha (i:=i) (n:=N) om h2 (λk h1 h2=>(he k om h2).symm)
   rw[kg,if_neg om,if_neg om] at h;exact h
  ·by_cases hk:k=i
   ·subst hk;omega
   ·exact he k om h4
 ·have:=gW (l:=a) (m:=b) N (λk hk=>he k om hk)
  rw[kg,if_neg om,if_pos om] at h;exact h
theorem sZ {a b:List Int} {Q:List Int->Prop} (ha:Words a) (hb:Words b) (lb:a.length<=1099511627775/\b.length<=1099511627775) (h:Q (lim (val a+val b))):jk a b Q:=by
 obtain⟨n,hn0⟩:∃n,n=max a.length b.length+1:=⟨_,rfl⟩
 have hn:max (a.length:Int) (b.length:Int)+1=(n:Int):=om
 unfold jk
 rw[hn]
 refine⟨by unfold rng;omega,?_⟩
 refine⟨λy=>∃i:Nat,y.2.1=i/\i<=n/\y.2.2.length=i/\Words y.2.2/\0<=y.1/\y.1<=1/\pv y.2.2 i+y.1*4294967296^i=pv a i+pv b i,λy=>n-y.2.1.toNat,⟨0,rfl,by omega,rfl,Words.nil,by show(0:Int)<=0;omega,by show(0:Int)<=1;omega,by simp[pv]⟩,?_⟩
 rintro⟨c,x,out⟩ ⟨i,hx,hi,hlen,hw,hc0,hc1,hpv⟩
 simp only at hx hi hlen hw hc0 hc1 hpv
 subst hx
 have hxl:=ha i
 have hxm:=hb i
 refine condT (λhlt=>?_) (λhge=>?_)
 ·refine bP ha (bP hb (eY ⟨qb om,by unfold rng;omega,?_,by dsimp only;omega⟩))
  rw[wrap_u64_id (m:=a.getD i 0+b.getD i 0) om om,wrap_u64_id om om,wrap_u32]
  have e32:∀z:Int,z / 2^Int.toNat 32=z / 4294967296:=λ_=>rfl
  rw[e32]
  generalize hd:a.getD i 0+b.getD i 0+c=d
  refine⟨i+1,rfl,by omega,by simp[hlen],hw.append (Words.one om om),by show 0<=d / 4294967296;omega,by show d / 4294967296<=1;omega,?_⟩
  show pv (out++[d % 4294967296]) (i+1)+d / 4294967296*_=_
  rw[mQ hlen,Int.pow_succ,pv,pv,Int.add_assoc,jh,<-hd,Int.add_mul,Int.add_mul]
  omega
 ·obtain rfl:i=n:=om
  refine cL hw (by unfold SM;omega) ?_
  have e:val out=val a+val b:=by
   have a1:=cT hw (i:=i) om
   have a2:=cT ha (i:=i) om
   have a3:=cT hb (i:=i) om
   have b2:=kq (l:=a) (i-1) om
   have b3:=kq (l:=b) (i-1) om
   have b4:=kq (l:=a) i om
   have b5:=kq (l:=b) i om
   have c2:=(bd ha (i-1)).2
   have c3:=(bd hb (i-1)).2
   have c4:=(bd hw i).1
   have hi1:i=i-1+1:=om
   have hc:=hpv
   rw[hi1,Int.pow_succ,<-hi1] at hc
   have:=p7 hc om om om hc0 hc1 (dk _)
   subst this
   omega
  rw[e]
  exact h
theorem ji {a b:List Int} {Q:List Int->Int->Prop} (ha:Words a) (hb:Words b) (la:SM a) (lb:SM b) (h1:val a<val b->Q [] 3) (h2:val b<=val a->Q (lim (val a-val b)) 0):gU a b Q:=by
 refine kQ ha hb la lb (condT (λhc=>h1 (iJ.1 hc)) (λhc=>?_))
 have hge:val b<=val a:=by have:=mt iJ.2 hc;omega
 have h:=h2 hge
 clear h1 h2
 unfold SM at la lb
 refine⟨λy=>∃i:Nat,y.2.1=i/\i<=a.length/\y.2.2.length=i/\Words y.2.2/\0<=y.1/\y.1<=1/\pv y.2.2 i=pv a i-pv b i+y.1*4294967296^i,λy=>a.length-y.2.1.toNat,⟨0,rfl,by omega,rfl,Words.nil,by show(0:Int)<=0;omega,by show(0:Int)<=1;omega,by simp[pv]⟩,?_⟩
 rintro⟨c,x,out⟩ ⟨i,hx,hi,hlen,hw,hb0,hb1,hpv⟩
 simp only at hx hi hlen hw hb0 hb1 hpv
 subst hx
 have hxl:=ha i
 have hxm:=hb i
 obtain⟨q1,q2,q3⟩:=o7 (a.getD i 0) (b.getD i 0) c hxl hxm ⟨hb0,hb1⟩
 refine condT (λhlt=>bP ha (bP hb (eY ⟨qb om,by unfold rng;omega,?_,by dsimp only;omega⟩))) (λhge=>?_)
 ·simp only[wrap_u32]
  generalize IntKind.u64.wrap (IntKind.u64.wrap (a.getD i 0-b.getD i 0)-c)=d at *
  have e63:d / 2^Int.toNat 63=d / 9223372036854775808:=rfl
  refine⟨i+1,rfl,by omega,by simp[hlen],hw.append (Words.one om om),by simpa only[e63] using q2,by simpa only[e63] using q3,?_⟩
  simp only[e63]
  rw[mQ hlen,Int.pow_succ,pv,pv,hpv]
  have e:d % 4294967296=a.getD i 0-b.getD i 0-c+4294967296*(d / 9223372036854775808):=om
  rw[e]
  generalize d / 9223372036854775808=d'
  have a1:=Int.add_mul (a.getD i 0-b.getD i 0-c) (4294967296*d') (4294967296^i)
  have a2:=Int.sub_mul (a.getD i 0-b.getD i 0) c (4294967296^i)
  have a3:=Int.sub_mul (a.getD i 0) (b.getD i 0) (4294967296^i)
  have a4:4294967296*d'*4294967296^i=d'*(4294967296^i*4294967296):=by rw[Int.mul_comm 4294967296 d',Int.mul_assoc,Int.mul_comm 4294967296]
  omega
 ·obtain rfl:i=a.length:=om
  refine cL hw (by unfold SM;omega) ?_
  have e:val out=val a-val b:=by
   have a1:=cT hw (i:=a.length) om
   have a2:=bG ha
   have a3:=bd ha a.length
   have a4:=bd hw a.length
   have a5:=bd hb a.length
   have a6:=bG hb
   rcases Nat.lt_or_ge a.length b.length with h | h
   ·have hm1:=lv hb (Nat.le_of_lt h)
    rcases (by omega:c=0\/c=1) with rfl | rfl
    ·have hz:pv b b.length=pv b a.length:=by
      refine mR hb (Nat.le_of_lt h) ?_
      omega
     omega
    ·omega
   ·have hm1:=cT hb h
    rcases (by omega:c=0\/c=1) with rfl | rfl<;>omega
  rw[e]
  exact h
theorem w6 {X C A1 B1 P1 P2:Int} (f1:0<=X) (f2:1*(P1*P2)<=C*(P1*P2)) (h:X+C*(P1*P2)=A1*B1) (a0:0<=A1) (a1:A1<P1) (_b0:0<=B1) (b1:B1<P2) (_p1:0<P1) (p2:0<P2):False:=by
 have h1:A1*B1<=A1*P2:=Int.mul_le_mul_of_nonneg_left om a0
 have h2:A1*P2<P1*P2:=Int.mul_lt_mul_of_pos_right a1 p2
 omega
set_option maxHeartbeats 1000000 in
theorem dH {a b:List Int} {Q:List Int->Prop} (ha:Words a) (hb:Words b) (la:a.length+b.length<=1099511627775) (h:Q (lim (val a*val b))):cN a b Q:=by
 obtain⟨N,hN⟩:∃N,N=a.length+b.length+1:=⟨_,rfl⟩
 have hNi:(a.length:Int)+(b.length:Int)+1=(N:Int):=om
 have hL:(b.length:Int)+1=((b.length+1:Nat):Int):=om
 unfold cN
 rw[hNi,hL]
 refine⟨by unfold rng;omega,by unfold rng;omega,m4 om om,?_⟩
 refine⟨λy=>∃i:Nat,y.1=i/\i<=a.length/\y.2.length=N/\Words y.2/\pv y.2 (i+b.length)=pv a i*pv b b.length/\(∀p,i+b.length<=p->y.2.getD p 0=0),λy=>a.length-y.1.toNat,
  ⟨0,rfl,by omega,by simp[eN],Words.rep _,by rw[oS,mf];simp[pv],λp hp=>by rw[oS,List.getD_eq_getElem?_getD,List.getElem?_replicate];split<;>rfl⟩,?_⟩
 rintro⟨x,out⟩ ⟨i,hx,hi,hlen,hw,hpv,hz⟩
 simp only at hx hi hlen hw hz hpv
 subst hx
 have hxi:=ha i
 refine condT (λhlt=>⟨⟨by omega,hlt⟩,by unfold rng;omega,?_⟩) (λhge=>?_)
 ·have hbl:pv b (b.length+1)=pv b b.length:=kq _ om
  refine⟨λy=>∃k:Nat,y.2.1=k/\k<=b.length+1/\y.2.2.length=N/\Words y.2.2/\(∀p,i+(b.length+1)<=p->y.2.2.getD p 0=0)/\0<=y.1/\y.1<4294967296/\(k=b.length+1->y.1=0)/\
    pv y.2.2 N+y.1*4294967296^(i+k)=pv a i*pv b b.length+a.getD i 0*4294967296^i*pv b k,λy=>b.length+1-y.2.1.toNat,
   ⟨0,rfl,by omega,hlen,hw,λp hp=>hz p om,by show(0:Int)<=0;omega,by show(0:Int)<_;omega,by omega,?_⟩,?_⟩
  ·show pv out N+0*_=_
   rw[j9 (j:=i+b.length) N om (λk h1 h2=>hz k h1),hpv];simp[pv]
  clear hpv hz hw hlen h
  rintro⟨c,x1,out2⟩ ⟨k,hx,hk,hlen,hw,hz,hc0,hc1,hck,hpv⟩
  simp only at hx hk hlen hw hz hc0 hc1 hck hpv
  subst hx
  have hy:=hb k
  have ho:=hw (i+k)
  obtain⟨q1,q2⟩:=tw hxi hy
  have eik:(i:Int)+(k:Int)=((i+k:Nat):Int):=om
  refine condT (λhlt2=>⟨b.getD k 0,bP hb rfl,by unfold rng;omega,⟨by omega,by omega⟩,by unfold rng;omega,⟨by omega,by omega⟩,eY ⟨by unfold rng;omega,?_,by dsimp only;omega⟩⟩) (λhge2=>⟨by unfold rng;omega,?_,by dsimp only;omega⟩)
  ·simp only[eik,d9,dK]
   simp (disch:=omega) only[wrap_u64_id,wrap_u32]
   have e32:∀z:Int,z / 2^Int.toNat 32=z / 4294967296:=λ_=>rfl
   simp only[e32]
   generalize hv:a.getD i 0*b.getD k 0+out2.getD (i+k) 0+c=v
   have hnew:pv (out2.set (i+k) (v % 4294967296)) N+v / 4294967296*4294967296^(i+(k+1))=pv a i*pv b b.length+a.getD i 0*4294967296^i*pv b (k+1):=by
    rw[ey om N om,pv,<-Nat.add_assoc,Int.pow_succ,Int.mul_add,<-Int.add_assoc,<-hpv]
    have s1:=jh v (4294967296^(i+k))
    have s2:=Int.sub_mul (v % 4294967296) (out2.getD (i+k) 0) (4294967296^(i+k))
    have s3:v*4294967296^(i+k)=a.getD i 0*4294967296^i*(b.getD k 0*4294967296^k)+out2.getD (i+k) 0*4294967296^(i+k)+c*4294967296^(i+k):=by
     rw[<-hv,Int.add_mul,Int.add_mul,Int.pow_add]
     congr 2
     rw[Int.mul_assoc,Int.mul_assoc,Int.mul_left_comm (b.getD k 0)]
    omega
   refine⟨k+1,rfl,by omega,by simp[hlen],hw.set _ om om,λp hp=>?_,by show 0<=v / 4294967296;omega,by show v / 4294967296<4294967296;omega,λhkb=>?_,hnew⟩
   ·show(out2.set (i+k) _).getD p 0=0
    rw[bK om];exact hz p hp
   ·show v / 4294967296=0
    have:k=b.length:=om
    have hy0:b.getD k 0=0:=lz om
    have ho0:out2.getD (i+k) 0=0\/True:=.inr trivial
    rw[hy0,Int.mul_zero] at hv
    rcases Int.lt_or_le v 4294967296 with h1 | h1
    ·omega
    ·exfalso
     have f1:=(bd (hw.set (i+k) (x:=v % 4294967296) om om) N).1
     have f2:1*(4294967296:Int)^(i+(k+1))<=v / 4294967296*4294967296^(i+(k+1)):=Int.mul_le_mul_of_nonneg_right om (by have:=dk (i+(k+1));omega)
     have f3:=(bd ha (i+1)).2
     have f4:=bd hb b.length
     have f5:pv a i*pv b b.length+a.getD i 0*4294967296^i*pv b (k+1)=pv a (i+1)*pv b b.length:=by
      have:pv b (k+1)=pv b b.length:=kq _ om
      rw[this,pv,Int.add_mul]
     have f7:(4294967296:Int)^(i+(k+1))=4294967296^(i+1)*4294967296^b.length:=by rw[<-Int.pow_add];congr 1;omega
     have f9:=dk (i+1)
     have f10:=dk b.length
     rw[f5,f7] at hnew
     rw[f7] at f2
     have f0:=(bd ha (i+1)).1
     generalize (4294967296:Int)^(i+1)=P1 at *
     generalize (4294967296:Int)^b.length=P2 at *
     generalize pv a (i+1)=A1 at *
     generalize pv b b.length=B1 at *
     exact w6 f1 f2 hnew f0 f3 f4.1 f4.2 f9 f10
  ·obtain rfl:k=b.length+1:=om
   have:=hck rfl
   subst this
   refine⟨i+1,rfl,by omega,hlen,hw,?_,λp hp=>hz p om⟩
   show pv out2 (i+1+b.length)=pv a (i+1)*pv b b.length
   rw[<-j9 (j:=i+1+b.length) N om (λk h1 h2=>hz k om),pv,Int.add_mul]
   rw[hbl] at hpv
   omega
 ·obtain rfl:i=a.length:=om
  refine cL hw (by unfold SM;omega) ?_
  have e:val out=val a*val b:=by
   have a1:=cT hw (i:=N) om
   rw[j9 (j:=a.length+b.length) N om (λk h1 h2=>hz k h1),hpv] at a1
   have a2:=bG ha
   have a3:=bG hb
   have:((val a*val b:Nat):Int)=(val a:Int)*(val b:Int):=by simp
   have:(val out:Int)=((val a*val b:Nat):Int):=by rw[this,a1,a2,a3]
   omega
  rw[e]
  exact h
end Go.Gg
namespace Go.Gg
theorem po {a:List Int} {n:Nat} {Q:List Int->Prop} (ha:Words a) (la:a.length<=1099511627775) (hn:n<=32) (h:Q (lim (val a*2^n))):j7 a (n:Int) Q:=by
 have hpp:=dx n
 have hs:=lk hn
 have hqp:=dx (32-n)
 have hple:(2:Int)^n<=4294967296:=by
  have:(2:Int)^n*1<=2^n*2^(32-n):=Int.mul_le_mul_of_nonneg_left om om
  omega
 refine⟨λy=>∃i:Nat,y.2.1=i/\i<=a.length/\y.2.2.length=i/\Words y.2.2/\0<=y.1/\y.1<2^n/\pv y.2.2 i+y.1*4294967296^i=pv a i*2^n,λy=>a.length-y.2.1.toNat,⟨0,rfl,by omega,rfl,Words.nil,by show(0:Int)<=0;omega,hpp,by simp[pv]⟩,?_⟩
 rintro⟨c,x,out⟩ ⟨i,hx,hi,hlen,hw,hc0,hc1,hpv⟩
 simp only at hx hi hlen hw hc0 hc1 hpv
 subst hx
 have hxi:=ha i
 refine condT (λhlt=>⟨⟨by omega,hlt⟩,⟨by omega,by omega⟩,?_⟩) (λhge=>?_)
 ·rw[d9,Int.toNat_natCast]
  have hy0:0<=a.getD i 0*2^n:=Int.mul_nonneg hxi.1 om
  have hy1:a.getD i 0*2^n<=4294967295*2^n:=Int.mul_le_mul_of_nonneg_right om om
  have hmod:a.getD i 0*2^n % 2^n=0:=Int.mul_emod_left _ _
  have hor:bits .or .u64 c (a.getD i 0*2^n)=a.getD i 0*2^n+c:=rN n hc0 hc1 hy0 hmod om
  rw[wrap_u64_id hxi.1 om,wrap_u64_id hy0 om,hor]
  refine eY ⟨qb om,by unfold rng;omega,?_,by dsimp only;omega⟩
  have e32:∀z:Int,z / 2^Int.toNat 32=z / 4294967296:=λ_=>rfl
  rw[e32,wrap_u32]
  generalize hd:a.getD i 0*2^n+c=d
  refine⟨i+1,rfl,by omega,by simp[hlen],hw.append (Words.one om om),by show 0<=d / 4294967296;omega,?_,?_⟩
  ·show d / 4294967296<2^n
   rw[Int.ediv_lt_iff_lt_mul om];omega
  ·show pv (out++[d % 4294967296]) (i+1)+d / 4294967296*_=_
   rw[mQ hlen,Int.pow_succ,Int.add_assoc,jh,<-hd,pv,Int.add_mul,Int.add_mul,<-hpv,Int.mul_right_comm]
   omega
 ·obtain rfl:i=a.length:=om
  rw[wrap_u32]
  have hcm:c % 4294967296=c:=om
  rw[hcm]
  refine⟨qb om,cL (hw.append (Words.one hc0 om)) (by simp[SM];omega) ?_⟩
  have e:val (out++[c])=val a*2^n:=by
   have a1:=cT (hw.append (Words.one hc0 (by omega:c<4294967296))) (i:=a.length+1) (by simp;omega)
   rw[mQ hlen,hpv,<-bG ha] at a1
   have:((val a*2^n:Nat):Int)=(val a:Int)*2^n:=by simp
   omega
  rw[e];exact h
theorem rJ {a:List Int} {n:Nat} {Q:List Int->Prop} (ha:Words a) (la:SM a) (hn:n<=32) (h:Q (lim (val a / 2^n))):iF a (n:Int) Q:=by
 unfold SM at la
 have hs:=lk hn
 have hpp:=dx n
 have hqp:=dx (32-n)
 unfold iF
 generalize hp:(2:Int)^n=p at *
 generalize (2:Int)^(32-n)=q at *
 refine⟨λy=>∃i:Nat,y.1=i/\i<=a.length/\y.2.length=i/\Words y.2/\pv y.2 i*p=pv a i-a.getD 0 0 % p+(a.getD i 0 % p)*4294967296^i,λy=>a.length-y.1.toNat,
  ⟨0,rfl,by omega,rfl,Words.nil,by simp[pv];omega⟩,?_⟩
 rintro⟨x,out⟩ ⟨i,hx,hi,hlen,hw,hpv⟩
 simp only at hx hi hlen hw hpv
 subst hx
 have h0:=ha i
 have h1:=ha (i+1)
 have e1:(i:Int)+1=((i+1:Nat):Int):=om
 refine condT (λhlt=>bP ha ⟨by unfold rng;omega,?_⟩) (λhge=>?_)
 ·rw[e1]
  refine bP ha ⟨⟨by omega,by omega⟩,qb om,by unfold rng;omega,?_,by dsimp only;omega⟩
  have e32:(2:Int)^Int.toNat 32=4294967296:=rfl
  rw[e32,Int.toNat_natCast,hp,wrap_u64_id om om,rN 32 h0.1 h0.2 om (by show _ % 4294967296=0;omega) om,wrap_u32]
  generalize ha0:a.getD i 0=x0 at *
  generalize ha1:a.getD (i+1) 0=x1 at *
  have hx0:0<=x0 / p:=Int.ediv_nonneg h0.1 om
  have hx0':x0 / p<q:=by rw[Int.ediv_lt_iff_lt_mul hpp,Int.mul_comm,hs];exact h0.2
  have hm0:0<=x1 % p:=Int.emod_nonneg _ om
  have hm1:x1 % p<p:=Int.emod_lt_of_pos _ hpp
  have hdv:(x1*4294967296+x0) / p=x1*q+x0 / p:=by
   rw[<-hs,Int.mul_left_comm,Int.add_comm,Int.add_mul_ediv_left _ _ om,Int.add_comm]
  have hk:(x1*4294967296+x0) / p % 4294967296=(x1 % p)*q+x0 / p:=by
   have d1:x1=p*(x1 / p)+x1 % p:=(Int.mul_ediv_add_emod x1 p).symm
   have d2:x1*q+x0 / p=(x1 % p)*q+x0 / p+4294967296*(x1 / p):=by
    have:x1*q=(p*(x1 / p)+x1 % p)*q:=by rw[<-d1]
    rw[this,Int.add_mul,Int.mul_right_comm,hs];omega
   rw[hdv,d2,Int.add_mul_emod_self_left]
   refine Int.emod_eq_of_lt ?_ ?_
   ·have:=Int.mul_nonneg hm0 (Int.le_of_lt hqp);omega
   ·have:(x1 % p)*q<=(p-1)*q:=Int.mul_le_mul_of_nonneg_right om om
    rw[Int.sub_mul,hs] at this;omega
  rw[hk]
  have hq0:=Int.mul_nonneg hm0 (Int.le_of_lt hqp)
  have hq1:(x1 % p)*q<=(p-1)*q:=Int.mul_le_mul_of_nonneg_right om om
  rw[Int.sub_mul,hs] at hq1
  refine⟨i+1,rfl,by omega,by simp[hlen],hw.append (Words.one om om),?_⟩
  show pv (out++[x1 % p*q+x0 / p]) (i+1)*p=pv a (i+1)-_+_
  rw[mQ hlen,pv,Int.add_mul,hpv,ha0,ha1,Int.pow_succ]
  have d0:x0=p*(x0 / p)+x0 % p:=(Int.mul_ediv_add_emod x0 p).symm
  have s1:(x1 % p*q+x0 / p)*4294967296^i*p=x1 % p*(4294967296^i*4294967296)+(p*(x0 / p))*4294967296^i:=by
   rw[Int.add_mul,Int.add_mul]
   congr 1
   ·rw[<-hs,Int.mul_assoc,Int.mul_assoc,Int.mul_left_comm q,Int.mul_comm q p]
   ·rw[Int.mul_right_comm,Int.mul_comm (x0 / p)]
  have s2:x0*4294967296^i=(p*(x0 / p))*4294967296^i+x0 % p*4294967296^i:=by
   rw[<-Int.add_mul,<-d0]
  omega
 ·obtain rfl:i=a.length:=om
  refine cL hw (by unfold SM;omega) ?_
  have a1:=bG hw
  have a2:=bG ha
  rw[hlen] at a1
  rw[lz (Nat.le_refl a.length),Int.zero_emod,Int.zero_mul,<-a2,<-a1] at hpv
  have hr0:0<=a.getD 0 0 % p:=Int.emod_nonneg _ om
  have hr1:a.getD 0 0 % p<p:=Int.emod_lt_of_pos _ hpp
  have e:(val a:Int) / p=val out:=by
   have:(val a:Int)=p*val out+a.getD 0 0 % p:=by rw[Int.mul_comm];omega
   rw[this,Int.add_comm,Int.add_mul_ediv_left _ _ om,Int.ediv_eq_zero_of_lt hr0 hr1];omega
  have e2:((val a / 2^n:Nat):Int)=(val a:Int) / p:=by rw[<-hp];simp
  have:val out=val a / 2^n:=om
  rw[this];exact h
theorem yG {y:Int} (h0:0<=y) (h1:y<4294967296):bits .and .u32 y 1=y % 2:=by
 obtain⟨m,rfl⟩:=Int.eq_ofNat_of_zero_le h0
 show IntKind.u32.wrap (((BitVec.ofInt 32 (m:Int)) &&& (BitVec.ofInt 32 1)).toNat:Int)=_
 rw[wrap_u32,BitVec.toNat_and,BitVec.toNat_ofInt,BitVec.toNat_ofInt]
 have e1:((m:Int) % ((2^32:Nat):Int)).toNat=m:=om
 have e2:((1:Int) % ((2^32:Nat):Int)).toNat=1:=om
 rw[e1,e2,Nat.and_one_is_mod]
 omega
theorem sk (m i:Nat):m &&& 2^i=if m.testBit i then 2^i else 0:=by
 refine Nat.eq_of_testBit_eq (λj=>?_)
 rw[Nat.testBit_and,Nat.testBit_two_pow]
 by_cases h:i=j
 ·subst h
  cases hb:m.testBit i<;>simp
 ·split<;>simp[h]
theorem yF {y:Int} (h0:0<=y) (h1:y<4294967296):bits .and .u32 y 2147483648=if y<2147483648 then 0 else 2147483648:=by
 obtain⟨m,rfl⟩:=Int.eq_ofNat_of_zero_le h0
 show IntKind.u32.wrap (((BitVec.ofInt 32 (m:Int)) &&& (BitVec.ofInt 32 2147483648)).toNat:Int)=_
 rw[wrap_u32,BitVec.toNat_and,BitVec.toNat_ofInt,BitVec.toNat_ofInt]
 have e1:((m:Int) % ((2^32:Nat):Int)).toNat=m:=om
 have e2:((2147483648:Int) % ((2^32:Nat):Int)).toNat=2^31:=by decide
 rw[e1,e2,sk]
 have:m.testBit 31=decide (2147483648<=m):=by
  rw[Nat.testBit_eq_decide_div_mod_eq]
  have e:m / 2^31=m / 2147483648:=rfl
  rw[e]
  by_cases hm:2147483648<=m
  ·have:m / 2147483648=1:=om
   rw[this];simp[hm]
  ·have:m / 2147483648=0:=om
   rw[this];simp[hm]
 rw[this]
 by_cases hm:2147483648<=m
 ·have h2:¬((m:Int)<2147483648):=om
  simp only[hm,decide_true,if_true]
  show _=if (m:Int)<2147483648 then _ else _
  rw[if_neg h2];rfl
 ·have h2:(m:Int)<2147483648:=om
  simp only[hm,decide_false,Bool.false_eq_true,if_false]
  show _=if (m:Int)<2147483648 then _ else _
  rw[if_pos h2];rfl
theorem xz {x p:Nat} (h:x<2^p):bt (x+2^p)=p+1:=by
 refine nX ?_ (λ_=>?_)
 ·rw[Nat.pow_succ];omega
 ·rw[Nat.add_sub_cancel];omega
theorem j8 {a:List Int} {Q:Int->Prop} (ha:Words a) (la:SM a) (h:Q (bt (val a))):fW a Q:=by
 unfold SM at la
 refine⟨λy=>∃i:Nat,y.2=i/\i<=a.length/\y.1=((bt (pv a i).toNat:Nat):Int),λy=>a.length-y.2.toNat,⟨0,rfl,by omega,rfl⟩,?_⟩
 rintro⟨n,x⟩ ⟨i,hx,hi,hn⟩
 simp only at hx hi hn
 subst hx hn
 have hxi:=ha i
 obtain⟨w,hw⟩:∃w:Nat,a.getD i 0=w:=⟨(a.getD i 0).toNat,by omega⟩
 obtain⟨b1,b2⟩:=bd ha i
 obtain⟨A,hA⟩:∃A:Nat,pv a i=A:=⟨(pv a i).toNat,by omega⟩
 have hW:(4294967296:Int)^i=((2^(32*i):Nat):Int):=by rw[Nat.pow_mul];simp
 refine condT (λhlt=>⟨⟨by omega,hlt⟩,?_⟩) (λhge=>?_)
 ·refine⟨λy=>∃k:Nat,y.2=k/\k<=32/\y.1=((bt (A+w % 2^k*2^(32*i)):Nat):Int),λy=>32-y.2.toNat,⟨0,rfl,by omega,?_⟩,?_⟩
  ·show((bt (pv a i).toNat:Nat):Int)=_
   rw[hA];simp[Nat.mod_one]
  rintro⟨n,x⟩ ⟨k,hx,hk,hn⟩
  simp only at hx hk hn
  subst hx hn
  refine condT (λhk2=>⟨⟨by omega,by omega⟩,?_⟩) (λhk2=>⟨by unfold rng;omega,⟨i+1,rfl,by omega,?_⟩,by dsimp only;omega⟩)
  ·have hpk:0<2^k:=Nat.pow_pos om
   have ed:a.getD i 0 / 2^k=((w / 2^k:Nat):Int):=by rw[hw];simp
   have hdle:w / 2^k<=w:=Nat.div_le_self _ _
   have hsucc:w % 2^(k+1)=w % 2^k+2^k*(w / 2^k % 2):=Nat.mod_pow_succ
   generalize w / 2^k=z at *
   rw[d9,Int.toNat_natCast,ed,yG om om]
   refine bS (λhe=>⟨by unfold rng;omega,by unfold rng;omega,by unfold rng;omega,by unfold rng;omega,⟨k+1,rfl,by omega,?_⟩,by dsimp only;omega⟩) (λhe=>⟨by unfold rng;omega,⟨k+1,rfl,by omega,?_⟩,by dsimp only;omega⟩)
   ·have h2:z % 2=1:=om
    show 32*(i:Int)+k+1=_
    rw[hsucc,h2,Nat.mul_one]
    have e:A+(w % 2^k+2^k)*2^(32*i)=(A+w % 2^k*2^(32*i))+2^(32*i+k):=by
     rw[Nat.add_mul,Nat.pow_add,Nat.mul_comm (2^(32*i)) (2^k)];omega
    have hlt2:A+w % 2^k*2^(32*i)<2^(32*i+k):=by
     have h3:w % 2^k<2^k:=Nat.mod_lt _ hpk
     have h4:(w % 2^k+1)*2^(32*i)<=2^k*2^(32*i):=Nat.mul_le_mul_right _ h3
     rw[Nat.pow_add,Nat.mul_comm (2^(32*i)) (2^k)]
     rw[Nat.add_mul] at h4
     omega
    rw[e,xz hlt2];omega
   ·have h2:z % 2=0:=om
    show((bt (A+w % 2^k*2^(32*i)):Nat):Int)=_
    rw[hsucc,h2,Nat.mul_zero,Nat.add_zero]
  ·obtain rfl:k=32:=om
   show((bt (A+w % 2^32*2^(32*i)):Nat):Int)=((bt (pv a (i+1)).toNat:Nat):Int)
   have hm:w % 2^32=w:=Nat.mod_eq_of_lt om
   have:(pv a (i+1)).toNat=A+w*2^(32*i):=by
    have:pv a (i+1)=((A+w*2^(32*i):Nat):Int):=by rw[pv,hA,hw,hW,Int.natCast_add,Int.natCast_mul]
    omega
   rw[hm,this]
 ·obtain rfl:i=a.length:=om
  exact h
end Go.Gg
namespace Go.Gg
theorem xX {s:Nat} (h:s<=31):rng ((s:Int)+1):=by unfold rng;omega
theorem yA {s:Nat} (h:s<=31):32-((s:Int)+1).toNat<32-(s:Int).toNat:=om
theorem sg {m n:Nat}:0<kg m n↔n<m:=by
 unfold kg
 by_cases h:m<n
 ·simp only[h,if_true];omega
 ·rw[if_neg h];split<;>omega
theorem qL {R k:Nat} (h:R<4294967296^k):(R:Int)=pv (lim R) k:=by
 have h1:=fz h
 have h2:=cT (aq R) h1
 rw[aC] at h2
 exact h2
theorem uS {g:Nat} (h:g<4294967296):val [(g:Int)]=g:=by
 rw[gS (Words.one om om),j0];omega
set_option maxHeartbeats 2000000 in
theorem kP {a b:List Int} {Q:List Int->List Int->Int->Prop} (ha:Words a) (hb:Words b) (la:a.length<=1099511627760) (lb:b.length<=1099511627760)
  (h0:val b=0->Q [] [] 8) (h:val b≠0->Q (lim (val a / val b)) (lim (val a % val b)) 0):gV a b Q:=by
 refine cL hb (by unfold SM;omega) ?_
 have b2:=cG hb
 have w2:=aq (val b)
 have v2:=aC (val b)
 refine bS (λhc=>?_) (λhc=>?_)
 ·have:(lim (val b)).length=0:=om
  have:lim (val b)=[]:=List.eq_nil_of_length_eq_zero this
  rw[this,j0] at v2
  exact h0 v2.symm
 have hB:val b≠0:=by intro hh;rw[hh,cB] at hc;exact hc rfl
 replace h:=h hB
 clear h0
 obtain⟨m,hm⟩:∃m,(lim (val b)).length=m+1:=⟨(lim (val b)).length-1,by omega⟩
 have htop:=rS hB
 have hbd:=bG w2
 rw[v2] at hbd
 generalize hA:val a=A at *
 generalize hBv:val b=B at *
 generalize hlb:lim B=bl at *
 rw[hm] at htop hbd
 rw[Nat.add_sub_cancel] at htop
 have hwt:=w2 m
 have hml:(bl.length:Int)-1=(m:Int):=om
 obtain⟨tp,htp⟩:∃x:Nat,bl.getD m 0=x:=⟨(bl.getD m 0).toNat,by omega⟩
 rw[htp] at htop hwt
 have htp0:tp≠0:=om
 have c1:=lD (n:=tp)
 have c2:=kh htp0
 have c3:=lE (x:=tp) om
 have c4:bt tp≠0:=by unfold bt;rw[if_neg htp0];omega
 have hPm:=dk m
 refine⟨λy=>∃s:Nat,y=s/\s<=32-bt tp,λy=>32-y.toNat,⟨0,rfl,by omega⟩,?_⟩
 rintro _ ⟨s,rfl,hs⟩
 have hps:=dx s
 have hsle:(2:Int)^(bt tp)*2^s<=4294967296:=by
  have e1:(2:Int)^(bt tp+s)*2^(32-(bt tp+s))=4294967296:=gA (c:=32) om
  rw[<-Int.pow_add]
  have:=dx (32-(bt tp+s))
  have h3:=dx (bt tp+s)
  have:(2:Int)^(bt tp+s)*1<=2^(bt tp+s)*2^(32-(bt tp+s)):=Int.mul_le_mul_of_nonneg_left om om
  omega
 have f1:(tp:Int)+1<=2^(bt tp):=by exact_mod_cast c1
 have g1:((tp:Int)+1)*2^s<=2^(bt tp)*2^s:=Int.mul_le_mul_of_nonneg_right f1 om
 have g1':((tp:Int)+1)*2^s=tp*2^s+2^s:=by rw[Int.add_mul];omega
 have ht0:0<=(tp:Int)*2^s:=Int.mul_nonneg om om
 have hw32:(tp:Int)*2^s % 4294967296=tp*2^s:=Int.emod_eq_of_lt ht0 om
 rw[hml,d9,htp,Int.toNat_natCast,wrap_u32,hw32,yF ht0 om]
 have hs31:s<=31:=om
 have hr1:rng ((s:Int)+1):=xX hs31
 have hr2:32-((s:Int)+1).toNat<32-((s:Int)).toNat:=yA hs31
 refine⟨by unfold rng;omega,⟨by omega,by omega⟩,⟨by omega,by omega⟩,bS (λhe=>⟨hr1,⟨s+1,rfl,?_⟩,hr2⟩) (λhe=>?_)⟩
 ·
  have hlt:(tp:Int)*2^s<2147483648:=by
   rcases Int.lt_or_le ((tp:Int)*2^s) 2147483648 with hh | hh
   ·exact hh
   ·rw[if_neg om] at he;cases he
  rcases Nat.lt_or_ge s (32-bt tp) with hh | hh
  ·omega
  ·exfalso
   have hse:s=32-bt tp:=om
   have e2:(2:Int)^(bt tp-1)*2^s=2147483648:=gA (c:=31) om
   have f2:(2:Int)^(bt tp-1)<=tp:=by exact_mod_cast c2
   have g2:(2:Int)^(bt tp-1)*2^s<=tp*2^s:=Int.mul_le_mul_of_nonneg_right f2 om
   omega
 have hge31:2147483648<=(tp:Int)*2^s:=by
  rcases Int.lt_or_le ((tp:Int)*2^s) 2147483648 with hh | hh
  ·rw[if_pos hh] at he;exact absurd rfl he
  ·exact hh
 clear he
 refine po ha om om (po w2 om om ?_)
 rw[hA,v2]
 obtain⟨A2,hA2⟩:∃A2,A2=A*2^s:=⟨_,rfl⟩
 obtain⟨B2,hB2⟩:∃B2,B2=B*2^s:=⟨_,rfl⟩
 rw[<-hA2,<-hB2]
 have hB2i:(B2:Int)=(B:Int)*2^s:=by rw[hB2];simp
 have hbm:=bd w2 m
 have hbd2:(B:Int)=pv bl m+tp*4294967296^m:=by rw[hbd,pv,htp]
 have ew1:(4294967296:Int)^(m+1)=4294967296^m*4294967296:=Int.pow_succ ..
 have hB2lt:(B2:Int)<4294967296^(m+1):=by
  have k1:(B:Int)+1<=(tp+1)*4294967296^m:=by rw[Int.add_mul];omega
  have k2:((B:Int)+1)*2^s<=((tp+1)*4294967296^m)*2^s:=Int.mul_le_mul_of_nonneg_right k1 om
  have k4:(((tp:Int)+1)*2^s)*4294967296^m<=4294967296*4294967296^m:=Int.mul_le_mul_of_nonneg_right om om
  rw[Int.mul_right_comm] at k2
  rw[Int.add_mul] at k2
  rw[hB2i,ew1]
  omega
 have hB2ge:2147483648*4294967296^m<=(B2:Int):=by
  have k1:(tp:Int)*4294967296^m<=B:=om
  have k2:(tp:Int)*4294967296^m*2^s<=B*2^s:=Int.mul_le_mul_of_nonneg_right k1 om
  have k3:2147483648*4294967296^m<=(tp:Int)*2^s*4294967296^m:=Int.mul_le_mul_of_nonneg_right hge31 om
  rw[Int.mul_right_comm] at k2
  omega
 have hB20:0<B2:=om
 have hB2N:B2<4294967296^(m+1):=by
  have:((4294967296^(m+1):Nat):Int)=(4294967296:Int)^(m+1):=by simp
  omega
 have wA:=aq A2
 have vA:=aC A2
 have wB:=aq B2
 have hlB:(lim B2).length<=m+1:=fz hB2N
 have hLA:(lim A2).length<=1099511627762:=by
  have k1:A<4294967296^a.length:=by rw[<-hA];exact l7 ha
  have k2:A*2^s<4294967296^(a.length+1):=by
   rw[Nat.pow_succ]
   have k3:2^s<=2^32:=Nat.pow_le_pow_right om om
   exact Nat.mul_lt_mul_of_lt_of_le k1 k3 om
  rw[hA2]
  have:=fz k2
  omega
 have hBtop:=qL hB2N
 generalize hlA2:lim A2=al at *
 generalize hlB2:lim B2=bl2 at *
 obtain⟨L,hL⟩:∃L,al.length=L:=⟨_,rfl⟩
 have hApv:(A2:Int)=pv al L:=by rw[<-vA,<-hL];exact bG wA
 obtain⟨r0,hr0⟩:∃r0,r0=[]++gn al (max 0 ((al.length:Int)-(bl.length:Int)+1)) (al.length:Int):=⟨_,rfl⟩
 obtain⟨J,hJ⟩:∃J,J=L-m:=⟨_,rfl⟩
 have hr0d:r0=al.drop J:=by
  rw[hr0]
  show []++(al.drop _).take _=_
  have e:(max 0 ((al.length:Int)-(bl.length:Int)+1)).toNat=J:=om
  rw[e,List.nil_append,Int.toNat_natCast]
  exact List.take_of_length_le (by simp)
 rw[<-hr0]
 refine⟨m4 om om,by unfold rng;omega,by unfold rng;omega,⟨by omega,by omega,by omega⟩,?_,by unfold rng;omega,?_⟩
 ·rw[hr0d];simp;omega
 have hr0w:Words r0:=by rw[hr0d];exact wA.drop J
 have hr0l:r0.length=L-J:=by rw[hr0d,List.length_drop,hL]
 have hsplit:(A2:Int)=pv al J+val r0*4294967296^J:=by
  have k0:L=J+(L-J):=om
  rw[hApv,k0,jO,bG hr0w,hr0l,hr0d]
 have hr0B:val r0<B2:=by
  have k1:=l7 hr0w
  have k2:4294967296^r0.length<=4294967296^m:=Nat.pow_le_pow_right om om
  have k3:((4294967296^m:Nat):Int)=(4294967296:Int)^m:=by simp
  omega
 refine⟨λy=>∃j:Nat,(y.2.1=(j:Int)-1\/(j=0/\y.2.1<0))/\j<=L/\Words y.1/\y.1.length<=m+1/\val y.1<B2/\y.2.2.length=L/\Words y.2.2/\(∀k,k<j->y.2.2.getD k 0=0)/\(A2:Int)=pv y.2.2 L*B2+val y.1*4294967296^j+pv al j,
  λy=>(y.2.1+1).toNat,⟨J,?_,by omega,hr0w,by show r0.length<=_;omega,hr0B,by simp[eN,hL],Words.rep _,λk hk=>?_,?_⟩,?_⟩
 ·show(al.length:Int)-(bl.length:Int)=(J:Int)-1\/J=0/\(al.length:Int)-(bl.length:Int)<0
  rcases Nat.lt_or_ge L (m+1) with hh | hh
  ·right;omega
  ·left;omega
 ·show(List.replicate ((al.length:Int)).toNat (0:Int)).getD k 0=0
  rw[List.getD_eq_getElem?_getD,List.getElem?_replicate];split<;>rfl
 ·show(A2:Int)=pv (List.replicate ((al.length:Int)).toNat (0:Int)) L*B2+val r0*4294967296^J+pv al J
  rw[mf];omega
 clear hsplit hr0B hr0w hr0l hr0 hr0d
 clear r0
 rintro⟨r,x,q⟩ ⟨j,hx,hj,hrw,hrl,hrB,hql,hqw,hqz,hsum⟩
 simp only at hx hj hrw hrl hrB hql hqw hqz hsum
 refine condT (λhc=>?_) (λhc=>?_)
 ·obtain⟨i,rfl⟩:∃i,j=i+1:=⟨j-1,by omega⟩
  obtain rfl:x=(i:Int):=om
  have hai:=wA i
  rw[d9]
  have hw1:Words ([al.getD i 0]++r):=(Words.one hai.1 hai.2).append hrw
  refine⟨⟨by omega,by omega⟩,by simp;omega,cL hw1 (by simp[SM];omega) ?_⟩
  obtain⟨R,hRd⟩:∃R,R=val ([al.getD i 0]++r):=⟨_,rfl⟩
  rw[<-hRd]
  have hRv:(R:Int)=al.getD i 0+4294967296*val r:=by
   rw[hRd]
   have:val ([al.getD i 0]++r)=(al.getD i 0).toNat+4294967296*val r:=gS hw1
   rw[this];omega
  have hRB:R<B2*4294967296:=om
  have hRn:R<4294967296^(m+2):=by
   have k1:B2*4294967296<4294967296^(m+1)*4294967296:=Nat.mul_lt_mul_of_pos_right hB2N om
   have k2:4294967296^(m+2)=4294967296^(m+1)*4294967296:=Nat.pow_succ ..
   omega
  have hRp:=qL hRn
  have wR:=aq R
  have hlR:(lim R).length<=m+2:=fz hRn
  have vR:=aC R
  have hmb:(bl.length:Int)=((m+1:Nat):Int):=om
  rw[hmb]
  refine bP wR ⟨by unfold rng;omega,bP wR ⟨by unfold rng;omega,bP wB ?_⟩⟩
  have h1:=wR (m+1)
  have h2:=wR m
  have h3:=wB m
  have hBt:(B2:Int)=pv bl2 m+bl2.getD m 0*4294967296^m:=by rw[hBtop,pv]
  have hb2m:=bd wB m
  have hr4:0<bl2.getD m 0:=by
   rcases Int.lt_or_le 0 (bl2.getD m 0) with hh | hh
   ·exact hh
   ·have:bl2.getD m 0=0:=om
    rw[this] at hBt;omega
  have e32:(2:Int)^Int.toNat 32=4294967296:=rfl
  rw[e32,wrap_u64_id (m:=(lim R).getD (m+1) 0*4294967296) om om,pK 32 h2.1 h2.2 om (by show _ % 4294967296=0;omega) om]
  generalize hhead:(lim R).getD (m+1) 0*4294967296+(lim R).getD m 0=head
  have hhead0:0<=head:=om
  have hq0:0<=head / bl2.getD m 0:=Int.ediv_nonneg hhead0 om
  have hq1:head / bl2.getD m 0<=head:=Int.ediv_le_self _ hhead0
  rw[Int.tdiv_eq_ediv_of_nonneg hhead0,wrap_u64_id hq0 om]
  refine⟨by omega,eY ?_⟩
  obtain⟨g0,hg0⟩:∃g0:Nat,min (head / bl2.getD m 0) 4294967295=(g0:Int):=⟨(min (head / bl2.getD m 0) 4294967295).toNat,by omega⟩
  have hg0W:g0<4294967296:=om
  have hU:R<(g0+1)*B2:=by
   by_cases hcase:head / bl2.getD m 0<=4294967295
   ·have hge:head / bl2.getD m 0=g0:=om
    have k1:head<((g0:Int)+1)*bl2.getD m 0:=by
     have d1:head=bl2.getD m 0*(head / bl2.getD m 0)+head % bl2.getD m 0:=(Int.mul_ediv_add_emod head _).symm
     have d2:head % bl2.getD m 0<bl2.getD m 0:=Int.emod_lt_of_pos _ hr4
     rw[hge] at d1
     rw[Int.add_mul,Int.mul_comm];omega
    have k2:(head+1)*4294967296^m<=(((g0:Int)+1)*bl2.getD m 0)*4294967296^m:=Int.mul_le_mul_of_nonneg_right om om
    have k3:(R:Int)=pv (lim R) m+head*4294967296^m:=by
     rw[hRp,pv,pv,ew1,<-hhead,Int.add_mul,Int.mul_assoc ((lim R).getD (m+1) 0),Int.mul_comm 4294967296];omega
    have k4:=(bd wR m).2
    have k5:((g0:Int)+1)*B2=((g0:Int)+1)*pv bl2 m+(((g0:Int)+1)*bl2.getD m 0)*4294967296^m:=by rw[hBt,Int.mul_add,Int.mul_assoc]
    have k6:0<=((g0:Int)+1)*pv bl2 m:=Int.mul_nonneg om hb2m.1
    have k7:(((g0+1)*B2:Nat):Int)=((g0:Int)+1)*B2:=by simp
    rw[Int.add_mul] at k2
    omega
   ·have:g0=4294967295:=om
    subst this
    omega
  rw[hg0,wrap_u32]
  have hg0m:(g0:Int) % 4294967296=g0:=om
  rw[hg0m]
  refine dH wB (Words.one om om) (by simp;omega) ?_
  have vB:val bl2=B2:=by rw[<-hlB2];exact aC B2
  rw[uS hg0W,vB]
  refine⟨λy=>∃g:Nat,y=((g:Int),lim (B2*g))/\g<4294967296/\R<(g+1)*B2,λy=>y.1.toNat,⟨g0,rfl,hg0W,hU⟩,?_⟩
  rintro _ ⟨g,rfl,hgW,hgU⟩
  have wP:=aq (B2*g)
  have vP:=aC (B2*g)
  have hPl:(lim (B2*g)).length<=m+2:=by
   refine fz ?_
   rw[Nat.pow_succ]
   exact Nat.mul_lt_mul_of_lt_of_le hB2N om om
  refine kQ wP wR (by unfold SM;omega) (by unfold SM;omega) ?_
  rw[vP,vR]
  refine condT (λhgt=>?_) (λhle=>?_)
  ·have hgt':=sg.1 hgt
   have hg1:1<=g:=by
    rcases Nat.eq_zero_or_pos g with hh | hh
    ·subst hh;simp at hgt'
    ·exact hh
   have hmul:B2*(g-1)=B2*g-B2:=by rw[Nat.mul_sub,Nat.mul_one]
   have hBle:B2<=B2*g:=Nat.le_mul_of_pos_right _ hg1
   refine ji wP wB (by unfold SM;omega) (by unfold SM;omega) (λhh=>?_) (λ_=>?_)
   ·rw[vP,vB] at hh;omega
   ·rw[vP,vB,wrap_u64_id (m:=(g:Int)-1) om om,<-hmul]
    refine⟨⟨g-1,?_,by omega,?_⟩,by dsimp only;omega⟩
    ·have:(g:Int)-1=((g-1:Nat):Int):=om
     rw[this]
    ·have:g-1+1=g:=om
     rw[this,Nat.mul_comm];exact hgt'
  ·have hle':B2*g<=R:=by
    rcases Nat.lt_or_ge R (B2*g) with hh | hh
    ·exact absurd (sg.2 hh) hle
    ·exact hh
   refine ji wR wP (by unfold SM;omega) (by unfold SM;omega) (λhh=>?_) (λ_=>?_)
   ·rw[vP,vR] at hh;omega
   ·rw[vP,vR,wrap_u32,dK]
    have hgm:(g:Int) % 4294967296=g:=om
    rw[hgm]
    have hRlt:R-B2*g<B2:=by rw[Nat.add_mul,Nat.mul_comm g] at hgU;omega
    have hqil:i<q.length:=om
    refine⟨⟨by omega,by omega⟩,by unfold rng;omega,⟨i,.inl rfl,by omega,aq _,?_,?_,by simp[hql],hqw.set _ om om,λk hk=>?_,?_⟩,by dsimp only;omega⟩
    ·show(lim (R-B2*g)).length<=m+1
     exact fz om
    ·show val (lim (R-B2*g))<B2
     rw[aC];exact hRlt
    ·show(q.set i _).getD k 0=0
     rw[bK om];exact hqz k om
    ·show(A2:Int)=pv (q.set i (g:Int)) L*B2+val (lim (R-B2*g))*4294967296^i+pv al i
     rw[aC,ey hqil L om,hqz i om,Int.sub_zero,hsum,Int.add_mul,pv,Int.pow_succ]
     have k1:((R-B2*g:Nat):Int)=(R:Int)-B2*g:=by rw[Int.natCast_sub hle'];simp
     have k2:((R:Int)-B2*g)*4294967296^i=R*4294967296^i-g*4294967296^i*B2:=by
      generalize (4294967296:Int)^i=z
      grind
     have k3:(R:Int)*4294967296^i=al.getD i 0*4294967296^i+val r*(4294967296^i*4294967296):=by
      rw[hRv,Int.add_mul,Int.mul_comm 4294967296 (val r:Int),Int.mul_assoc,Int.mul_comm 4294967296]
     rw[k1,k2,k3]
     omega
 ·obtain rfl:j=0:=om
  have hq1:=bG hqw
  rw[hql] at hq1
  simp only[pv,Int.pow_zero,Int.mul_one,Int.add_zero] at hsum
  rw[<-hq1] at hsum
  have hsumN:A2=val q*B2+val r:=by
   have:((A2:Nat):Int)=((val q*B2+val r:Nat):Int):=by rw[Int.natCast_add,Int.natCast_mul];exact hsum
   omega
  have hps':0<2^s:=Nat.pow_pos om
  have hdiv:A / B=val q:=by
   have k1:A*2^s / (B*2^s)=A / B:=Nat.mul_div_mul_right _ _ hps'
   rw[<-k1,<-hA2,<-hB2,hsumN,Nat.add_comm,Nat.add_mul_div_right _ _ hB20,Nat.div_eq_of_lt hrB];omega
  have hmod:A % B=val r / 2^s:=by
   have k1:A*2^s % (B*2^s)=A % B*2^s:=Nat.mul_mod_mul_right _ _ _
   rw[<-hA2,<-hB2,hsumN,Nat.add_comm,Nat.add_mul_mod_self_right,Nat.mod_eq_of_lt hrB] at k1
   rw[k1,Nat.mul_div_cancel _ hps']
  refine cL hqw (by unfold SM;omega) (rJ hrw (by unfold SM;omega) om ?_)
  rw[<-hmod,<-hdiv]
  exact h
theorem oe {a b:List Int} {Q:List Int->Prop} (ha:Words a) (hb:Words b) (la:a.length<=1099511627760) (lb:b.length<=1099511627760) (h:Q (lim (Nat.gcd (val a) (val b)))):jj a b Q:=by
 refine cL ha (by unfold SM;omega) (cL hb (by unfold SM;omega) ?_)
 have b1:=cG ha
 have b2:=cG hb
 refine⟨λy=>∃m n:Nat,y=(lim m,lim n)/\(lim m).length<=1099511627760/\(lim n).length<=1099511627760/\Nat.gcd m n=Nat.gcd (val a) (val b),λy=>val y.2,⟨_,_,rfl,by omega,by omega,rfl⟩,?_⟩
 rintro _ ⟨m,n,rfl,hm,hn,hg⟩
 refine condT (λhc=>?_) (λhc=>?_)
 ·have hn0:n≠0:=by rintro rfl;rw[cB] at hc;simp at hc
  refine kP (aq m) (aq n) hm hn (λh0=>absurd (by rw[aC] at h0;exact h0) hn0) (λ_=>?_)
  rw[aC,aC]
  have hlt:=Nat.mod_lt m (Nat.pos_of_ne_zero hn0)
  refine⟨⟨n,m % n,rfl,hn,Nat.le_trans (b6 (Nat.le_of_lt hlt)) hn,?_⟩,?_⟩
  ·rw[<-hg,Nat.gcd_comm n,<-Nat.gcd_rec,Nat.gcd_comm]
  ·show val (lim (m % n))<val (lim n)
   rw[aC,aC];exact hlt
 ·have hn0:n=0:=by
   rcases Nat.eq_zero_or_pos n with h0 | h0
   ·exact h0
   ·rw[dQ h0] at hc;simp at hc
  subst hn0
  rw[Nat.gcd_zero_right] at hg
  rw[<-hg] at h
  exact h
end Go.Gg
namespace Go.Gg
theorem eT {σ:Type} {n:Nat} (J:Nat->σ->Prop) (ix:σ->Int) (c:Int) (hix:∀i y,J i y->ix y=i+c) {x0:σ} {body:σ->(σ->Prop)->Prop} (h0:J 0 x0)
  (hs:∀i y (next:σ->Prop),i<n->J i y->(∀z,J (i+1) z->next z)->body y next) (he:∀y (next:σ->Prop),J n y->body y next):bg x0 body:=by
 refine⟨λy=>∃i,i<=n/\J i y,λy=>n-(ix y-c).toNat,⟨0,Nat.zero_le _,h0⟩,?_⟩
 rintro y ⟨i,hi,hJ⟩
 rcases Nat.lt_or_ge i n with h | h
 ·refine hs i y _ h hJ λz hz=>⟨⟨i+1,h,hz⟩,?_⟩
  have h1:=hix i y hJ
  have h2:=hix (i+1) z hz
  dsimp only
  rw[h1,h2]
  omega
 ·obtain rfl:i=n:=om
  exact he y _ hJ
theorem ik {σ:Type} {n:Nat} (f:Nat->σ) (ix:σ->Int) (c:Int) (hix:∀i,ix (f i)=i+c) {x0:σ} {body:σ->(σ->Prop)->Prop} (h0:x0=f 0)
  (hs:∀i (next:σ->Prop),i<n->next (f (i+1))->body (f i) next) (he:∀(next:σ->Prop),body (f n) next):bg x0 body:=
 eT (λi y=>y=f i) ix c (λi y h=>by rw[h];exact hix i) h0 (λi y next hi hy hn=>hy▸hs i next hi (hn _ rfl)) (λy next hy=>hy▸he next)
theorem ko {n:Nat} (P:Nat->Prop) {E:Prop} {st:Int->(Int->Prop)->Prop} (hn:n<=9223372036854775807)
  (hs:∀(i:Nat) (next:Int->Prop),i<n->(∀j,j<i->¬P j)->(¬P i->rng ((i:Int)+1)/\next ((i:Int)+1))->st (i:Int) next)
  (he:(∀j,j<n->¬P j)->E):bg (σ:=Int) 0 (λx next=>aj (decide (x<(n:Int))) (st x next) E):=by
 refine eT (n:=n) (λi y=>y=(i:Int)/\∀j,j<i->¬P j) (λy=>y) 0 (λi y h=>by rw[h.1,Int.add_zero]) ⟨rfl,λj hj=>absurd hj om⟩ ?_ ?_
 ·rintro i _ next hi ⟨rfl,hI⟩ hn2
  refine condT (λhc=>hs i next hi hI λhP=>⟨by unfold rng;omega,hn2 _ ⟨by omega,λj hj=>?_⟩⟩) (λhc=>absurd (show(i:Int)<n by omega) hc)
  rcases Nat.lt_or_ge j i with h1 | h1
  ·exact hI j h1
  ·obtain rfl:j=i:=om
   exact hP
 ·rintro _ next ⟨rfl,hI⟩
  exact condT (λhc=>absurd hc om) (λ_=>he hI)
def iq (g:Nat->Int):Nat->Int
 | 0=>0
 | n+1=>if iq g n=0 then g n else iq g n
theorem cr {g:Nat->Int}:∀ {n:Nat},iq g n=0↔∀i,i<n->g i=0
 | 0=>⟨λ_ i hi=>absurd hi om,λ_=>rfl⟩
 | n+1=>by
  rw[iq]
  constructor
  ·intro h i hi
   split at h
   ·rename_i h1
    rcases Nat.lt_or_ge i n with h2 | h2
    ·exact cr.1 h1 i h2
    ·obtain rfl:i=n:=om
     exact h
   ·rename_i h1;exact absurd h h1
  ·intro h
   rw[if_pos (cr.2 λi hi=>h i om)]
   exact h n om
theorem eB {g:Nat->Int} {i:Nat} (h:∀j,j<i->g j=0) (hg:g i≠0):∀n,i<n->iq g n=g i
 | 0,hn=>absurd hn om
 | n+1,hn=>by
  rw[iq]
  rcases Nat.lt_or_ge i n with h1 | h1
  ·rw[eB h hg n h1,if_neg hg]
  ·obtain rfl:i=n:=om
   rw[if_pos (cr.2 h)]
end Go.Gg
namespace Go.Gg
def sgn (neg:Bool) (n:Nat):Int:=if neg then -(n:Int) else n
def aM (q:Rat):GRat:=if q.num=0 then ⟨false,[],[]⟩ else ⟨decide (q.num<0),lim q.num.natAbs,lim q.den⟩
def s7 (a:GRat):Rat:=mkRat (sgn a.Neg (val a.Num)) (val a.Den)
def eqR (a b:GRat):Bool:=a.Neg == b.Neg && a.Num == b.Num && a.Den == b.Den
def okR (a:GRat):Bool:=eqR a (aM (s7 a))
def a_ (a:GRat):Rat:=if okR a then s7 a else 0
theorem na {a b:GRat}:eqR a b=true↔a=b:=by
 cases a;cases b
 simp[eqR,and_assoc]
theorem mc {n:Int}:sgn (decide (n<0)) n.natAbs=n:=by
 unfold sgn
 by_cases h:n<0
 ·simp only[h,decide_true,if_true];omega
 ·simp only[h,decide_false,Bool.false_eq_true,if_false];omega
theorem pu (q:Rat):s7 (aM q)=q:=by
 unfold aM
 by_cases h:q.num=0
 ·rw[if_pos h]
  have:q=0:=Rat.num_eq_zero.1 h
  subst this
  simp[s7,sgn,j0]
 ·rw[if_neg h]
  simp only[s7]
  rw[aC,aC,mc,Rat.mkRat_self]
theorem qY (q:Rat):okR (aM q)=true:=by
 unfold okR
 rw[pu]
 exact na.2 rfl
theorem cx (q:Rat):a_ (aM q)=q:=by rw[a_,qY,if_pos rfl,pu]
theorem nI {a:GRat} (h:okR a=true):a=aM (a_ a):=by
 have:=na.1 h
 rw[a_,h,if_pos rfl]
 exact this
def ez (l:List Int):Bool:=decide (0<l.length) && (l.getD (l.length-1) 0 != 0)
theorem qW {n:Nat} (h:n≠0):ez (lim n)=true:=by
 have h1:=rS h
 have h2:(lim n).length≠0:=by rw[dQ om];simp
 simp only[ez,Bool.and_eq_true,decide_eq_true_eq,bne_iff_ne]
 exact⟨by omega,h1⟩
theorem lw {l:List Int} (hw:Words l) (h:ez l=true):lim (val l)=l/\val l≠0:=by
 simp only[ez,Bool.and_eq_true,decide_eq_true_eq,bne_iff_ne] at h
 have h1:=uR hw (λ_=>h.2)
 refine⟨h1,λh0=>?_⟩
 rw[h0,cB] at h1
 rw[<-h1] at h
 simp at h
theorem xV {b:Bool} {n:Nat} (h:n≠0):decide (sgn b n<0)=b:=by
 cases b
 ·simp[sgn]
 ·simp[sgn];omega
theorem mH {b:Bool} {n:Nat}:(sgn b n).natAbs=n:=by cases b<;>simp[sgn]
theorem wI {b:Bool}:sgn b 0=0:=by cases b<;>rfl
theorem za {b:Bool} {n:Nat} (h:n≠0):sgn b n≠0:=by
 intro h0
 have:=mH (b:=b) (n:=n)
 rw[h0] at this
 exact h (by simpa using this.symm)
theorem pC {b:Bool} {n d:Nat} (hn:n≠0) (hd:d≠0):aM (mkRat (sgn b n) d)=⟨b,lim (n / Nat.gcd n d),lim (d / Nat.gcd n d)⟩:=by
 have e1:(mkRat (sgn b n) d).num=sgn b (n / Nat.gcd n d):=by
  rw[Rat.num_mkRat,if_neg hd,mH,Nat.gcd_comm]
  cases b
  ·simp[sgn]
  ·simp only[sgn,if_true]
   have:((Nat.gcd n d:Nat):Int) ∣ (n:Int):=Int.natCast_dvd_natCast.2 (Nat.gcd_dvd_left n d)
   rw[Int.neg_ediv_of_dvd this]
   simp
 have e2:(mkRat (sgn b n) d).den=d / Nat.gcd n d:=by rw[Rat.den_mkRat,if_neg hd,mH,Nat.gcd_comm]
 have hg:0<n / Nat.gcd n d:=Nat.div_pos (Nat.le_of_dvd om (Nat.gcd_dvd_left n d)) (Nat.gcd_pos_of_pos_left _ om)
 unfold aM
 rw[e1,e2,if_neg (za om),xV om,mH]
theorem nH {b:Bool} {d:Nat}:aM (mkRat (sgn b 0) d)=⟨false,[],[]⟩:=by rw[wI,Rat.zero_mkRat];rfl
theorem uL {a:GRat} (hn:Words a.Num) (hd:Words a.Den) :
  okR a=if a.Num.length=0/\a.Den.length=0 then !a.Neg else ez a.Num && (ez a.Den && decide (Nat.gcd (val a.Num) (val a.Den)=1)):=by
 obtain⟨b,n,d⟩:=a
 simp only at hn hd ⊢
 by_cases h:n.length=0/\d.length=0
 ·rw[if_pos h]
  obtain rfl:=List.eq_nil_of_length_eq_zero h.1
  obtain rfl:=List.eq_nil_of_length_eq_zero h.2
  simp only[okR,s7,j0,nH]
  cases b<;>rfl
 ·rw[if_neg h]
  cases hp:ez n with
  | false=>
   rw[Bool.false_and]
   cases ho:okR ⟨b,n,d⟩ with
   | false=>rfl
   | true=>
    exfalso
    have e:=nI ho
    unfold aM at e
    split at e
    ·cases e;exact h ⟨rfl,rfl⟩
    ·rename_i hz
     injection e with e1 e2 e3
     rw[e2,qW om] at hp
     cases hp
  | true=>
  rw[Bool.true_and]
  cases hq:ez d with
  | false=>
   rw[Bool.false_and]
   cases ho:okR ⟨b,n,d⟩ with
   | false=>rfl
   | true=>
    exfalso
    have e:=nI ho
    unfold aM at e
    split at e
    ·cases e;exact h ⟨rfl,rfl⟩
    ·rename_i hz
     injection e with e1 e2 e3
     rw[e3,qW (Rat.den_nz _)] at hq
     cases hq
  | true=>
  rw[Bool.true_and]
  obtain⟨n1,n2⟩:=lw hn hp
  obtain⟨d1,d2⟩:=lw hd hq
  have hm:aM (s7 ⟨b,n,d⟩)=⟨b,lim (val n / Nat.gcd (val n) (val d)),lim (val d / Nat.gcd (val n) (val d))⟩:=pC n2 d2
  by_cases hg:Nat.gcd (val n) (val d)=1
  ·rw[hg] at hm
   simp only[hg,decide_true]
   rw[okR]
   refine na.2 ?_
   rw[hm,Nat.div_one,Nat.div_one,n1,d1]
  ·simp only[hg,decide_false]
   cases ho:okR ⟨b,n,d⟩ with
   | false=>rfl
   | true=>
    exfalso
    have e:=na.1 ho
    rw[hm] at e
    injection e with e1 e2 e3
    have e4:val n=val n / Nat.gcd (val n) (val d):=by
     have:=congrArg val e2
     rwa[aC] at this
    have hgp:0<Nat.gcd (val n) (val d):=Nat.gcd_pos_of_pos_left _ om
    have:=Nat.div_lt_self (n:=val n) om (show 1<Nat.gcd (val n) (val d) by omega)
    omega
def RB (k:Nat) (q:Rat):Prop:=q.num.natAbs<2^k/\q.den<2^k
theorem RB.mono {k l:Nat} {q:Rat} (h:RB k q) (hkl:k<=l):RB l q:=
 ⟨Nat.lt_of_lt_of_le h.1 (Nat.pow_le_pow_right om hkl),Nat.lt_of_lt_of_le h.2 (Nat.pow_le_pow_right om hkl)⟩
theorem dR {n k:Nat} (h:n<2^k):(lim n).length<=k / 32+1:=by
 refine fz (Nat.lt_of_lt_of_le h ?_)
 have:(4294967296:Nat)^(k / 32+1)=2^(32*(k / 32+1)):=by rw[Nat.pow_mul]
 rw[this]
 exact Nat.pow_le_pow_right om om
theorem sr (k:Nat) (hk:1<=k):RB k 0:=⟨by simp;exact Nat.pow_pos om,by
 have:2^1<=2^k:=Nat.pow_le_pow_right om hk
 simp;omega⟩
theorem c6 {m n k l:Nat} (h:m<2^k) (h':n<2^l):m*n<2^(k+l):=by
 rw[Nat.pow_add]
 exact Nat.mul_lt_mul'' h h'
theorem qe {n:Int} {d k:Nat} (hd:d≠0) (hn:n.natAbs<2^k) (hdk:d<2^k):RB k (mkRat n d):=by
 refine⟨?_,?_⟩
 ·rw[Rat.num_mkRat,if_neg hd]
  refine Nat.lt_of_le_of_lt ?_ hn
  exact Int.natAbs_ediv_le_natAbs _ _
 ·rw[Rat.den_mkRat,if_neg hd]
  exact Nat.lt_of_le_of_lt (Nat.div_le_self _ _) hdk
theorem li {k l:Nat} {p q:Rat} (hp:RB k p) (hq:RB l q):RB (k+l) (p*q):=by
 rw[Rat.mul_def']
 refine qe (Nat.mul_ne_zero p.den_nz q.den_nz) ?_ (c6 hp.2 hq.2)
 rw[Int.natAbs_mul]
 exact c6 hp.1 hq.1
theorem zA {k l:Nat} {p q:Rat} (hp:RB k p) (hq:RB l q):RB (k+l+1) (p+q):=by
 rw[Rat.add_def']
 refine qe (Nat.mul_ne_zero p.den_nz q.den_nz) ?_ (Nat.lt_of_lt_of_le (c6 hp.2 hq.2) (Nat.pow_le_pow_right om om))
 have h1:(p.num*q.den).natAbs<2^(k+l):=by rw[Int.natAbs_mul];exact c6 hp.1 (by simpa using hq.2)
 have h2:(q.num*p.den).natAbs<2^(k+l):=by rw[Int.natAbs_mul,Nat.add_comm k l];exact c6 hq.1 (by simpa using hp.2)
 have h3:=Int.natAbs_add_le (p.num*q.den) (q.num*p.den)
 rw[Nat.pow_succ]
 omega
theorem qd {k:Nat} {p:Rat} (hp:RB k p):RB k (-p):=⟨by simpa using hp.1,hp.2⟩
theorem zy {k:Nat} {p:Rat} (hp:RB k p):RB k p⁻¹:=by
 by_cases h0:p.num=0
 ·have:p=0:=Rat.num_eq_zero.1 h0
  subst this
  simpa using hp
 ·refine⟨?_,?_⟩
  ·rw[Rat.num_inv,Int.natAbs_mul,Int.natAbs_sign_of_ne_zero h0,Nat.one_mul];simpa using hp.2
  ·rw[Rat.den_inv,if_neg h0];exact hp.1
theorem mC {k l:Nat} {p q:Rat} (hp:RB k p) (hq:RB l q):RB (k+l) (p / q):=by rw[Rat.div_def];exact li hp (zy hq)
theorem jd {k l:Nat} {p q:Rat} (hp:RB k p) (hq:RB l q):RB (k+l+1) (p-q):=by rw[Rat.sub_eq_add_neg];exact zA hp (qd hq)
theorem xF {k:Nat} {n:Int} (hk:1<=k) (h:n.natAbs<2^k):RB k (n:Rat):=⟨h,by
 have:2^1<=2^k:=Nat.pow_le_pow_right om hk
 show 1<2^k
 omega⟩
theorem yK {a:GRat} {m:Nat} (hn:Words a.Num) (hd:Words a.Den) (h1:a.Num.length<=m) (h2:a.Den.length<=m):RB (32*m+1) (a_ a):=by
 unfold a_
 split
 ·unfold s7
  by_cases hd0:val a.Den=0
  ·rw[hd0,Rat.mkRat_zero];exact sr _ om
  ·have e:∀l:List Int,Words l->l.length<=m->val l<2^(32*m+1):=λl hw hl=>by
    have k1:=l7 hw
    have k2:(4294967296:Nat)^l.length<=4294967296^m:=Nat.pow_le_pow_right om hl
    have k3:(4294967296:Nat)^m=2^(32*m):=by rw[Nat.pow_mul]
    have k4:2^(32*m)<=2^(32*m+1):=Nat.pow_le_pow_right om om
    omega
   exact qe hd0 (by rw[mH];exact e _ hn h1) (e _ hd h2)
 ·exact sr _ om
end Go.Gg
namespace Go.Gg
def Fr (a:GRat):Prop:=Words a.Num/\Words a.Den/\a.Num.length<=1099511627760/\a.Den.length<=1099511627760
theorem lj {q:Rat} {k:Nat} (h:RB k q) (hk:k<=35184372088000):Fr (aM q):=by
 unfold aM
 split
 ·exact⟨Words.nil,Words.nil,by simp,by simp⟩
 ·have h1:=dR h.1
  have h2:=dR h.2
  exact⟨aq _,aq _,by dsimp only;omega,by dsimp only;omega⟩
theorem dS {n:Nat}:((lim n).length:Int)=0↔n=0:=by
 constructor
 ·intro h
  rcases Nat.eq_zero_or_pos n with h0 | h0
  ·exact h0
  ·rw[dQ h0] at h;simp at h;omega
 ·rintro rfl;rw[cB];rfl
theorem eW {n:Nat}:(bt n:Int)=0↔n=0:=by
 unfold bt
 split<;>omega
theorem uE {b:Bool} {m n:Nat}:sgn b (m*n)=sgn b m*(n:Int):=by
 cases b<;>simp[sgn,Int.natCast_mul,Int.neg_mul]
theorem sP {b c:Bool} {m n:Nat}:sgn (b != c) (m*n)=sgn b m*sgn c n:=by
 cases b<;>cases c<;>simp[sgn,Int.natCast_mul,Int.neg_mul,Int.mul_neg,Int.neg_neg]
theorem uF {b:Bool} {m n:Nat}:sgn b (m+n)=sgn b m+sgn b n:=by
 cases b<;>simp only[sgn,Bool.false_eq_true,if_false,if_true]<;>omega
theorem oR {b c:Bool} {m n:Nat} (hbc:¬b=c) (h:n<=m):sgn b (m-n)=sgn b m+sgn c n:=by
 cases b<;>cases c<;>first | exact absurd rfl hbc | (simp only[sgn,Bool.false_eq_true,if_false,if_true];omega)
theorem kI (q:Rat):sgn (decide (q.num<0)) q.num.natAbs=q.num:=mc
theorem rv:val [1]=1:=uS (g:=1) om
theorem yU:lim 1=[1]:=by rw[dQ om];simp[cB]
theorem rr:Words [1]:=Words.one om om
theorem cR {neg:Bool} {num den:List Int} {Q:GRat->Prop} (hn:Words num) (hd:Words den) (ln:num.length<=1099511627760) (ld:den.length<=1099511627760)
  (h0:val den≠0) (h:Q (aM (mkRat (sgn neg (val num)) (val den)))):bW neg num den Q:=by
 refine pO hn (by unfold SM;omega) (bS (λhc=>?_) (λhc=>?_))
 ·rw[eW] at hc
  rw[hc,nH] at h
  exact h
 ·have hn0:val num≠0:=λhh=>hc (eW.2 hh)
  rw[pC hn0 h0] at h
  have hgp:Nat.gcd (val num) (val den)≠0:=Nat.ne_of_gt (Nat.gcd_pos_of_pos_left _ om)
  refine lT hn hd om om ?_
  have hgl:(lim (Nat.gcd (val num) (val den))).length<=1099511627760:=by
   refine Nat.le_trans (b6 (Nat.gcd_le_left _ om)) (Nat.le_trans (cG hn) ln)
  refine jF hn (aq _) om om (λhh=>absurd (by rwa[aC] at hh) hgp) (λ_=>?_)
  refine jF hd (aq _) om om (λhh=>absurd (by rwa[aC] at hh) hgp) (λ_=>?_)
  rw[aC]
  exact h
theorem jL {a:List Int} {Q:Bool->Prop} (la:a.length<=1099511627776) (h:Q (ez a)):eQ a Q:=by
 refine condT (λhc=>⟨by unfold rng;omega,by omega,?_⟩) (λhc=>?_)
 ·have e:ez a=(at' a ((a.length:Int)-1) != 0):=by
   have:(a.length:Int)-1=((a.length-1:Nat):Int):=om
   rw[this,d9]
   simp only[ez]
   rw[decide_eq_true (by omega:0<a.length),Bool.true_and]
  rw[<-e];exact h
 ·have e:ez a=false:=by
   simp only[ez]
   rw[decide_eq_false (by omega:¬0<a.length),Bool.false_and]
  rw[e] at h;exact h
theorem bO {b:Bool} {p q:Prop} (h1:b=true->p) (h2:b=false->q):aj b p q:=⟨h1,h2⟩
theorem oH {n:Nat} {Q:Int->Prop} (hl:(lim n).length<=1099511627776) (h:Q (kg n 1)):cM (lim n) [1] Q:=by
 refine d6 (aq _) rr (by unfold SM;omega) (by unfold SM;simp) ?_
 rw[aC,rv]
 exact h
theorem xt {m n:Nat}:(kg m n == 0)=decide (m=n):=by
 unfold kg
 split
 ·rw[decide_eq_false om];rfl
 ·split
  ·rename_i h;rw[decide_eq_true h];rfl
  ·rename_i h;rw[decide_eq_false h];rfl
theorem jM {a:GRat} {Q:Bool->Prop} (fa:Fr a) (h:Q (okR a)):eR a Q:=by
 obtain⟨hn,hd,ln,ld⟩:=fa
 rw[uL hn hd] at h
 refine⟨λx=>x=decide (a.Num.length=0/\a.Den.length=0),?_,?_⟩
 ·refine bS (λhc=>?_) (λhc=>?_)
  ·by_cases hd0:a.Den.length=0
   ·rw[decide_eq_true ⟨by omega,hd0⟩];simp;exact List.eq_nil_of_length_eq_zero hd0
   ·rw[decide_eq_false om];simp;intro hh;exact hd0 (by rw[hh];rfl)
  ·rw[decide_eq_false om]
 ·rintro _ rfl
  refine condT (λhc=>?_) (λhc=>?_)
  ·rw[if_pos hc] at h;exact h
  ·rw[if_neg hc] at h
   refine jL om (bO (λhp=>?_) (λhp=>?_))
   ·rw[hp,Bool.true_and] at h
    refine jL om (bO (λhq=>?_) (λhq=>?_))
    ·rw[hq,Bool.true_and] at h
     refine lT hn hd om om ?_
     have hgl:(lim (Nat.gcd (val a.Num) (val a.Den))).length<=1099511627760:=by
      refine Nat.le_trans (b6 (Nat.gcd_le_left _ ?_)) (Nat.le_trans (cG hn) ln)
      have:=(lw hn hp).2
      omega
     show cM (lim (Nat.gcd (val a.Num) (val a.Den))) [1] (λr4=>Q (r4 == 0))
     refine oH om ?_
     rw[xt]
     exact h
    ·rw[hq,Bool.false_and] at h;exact h
   ·rw[hp,Bool.false_and] at h;exact h
theorem wt {a:GRat} (h:okR a=false):a_ a=0:=by rw[a_,h];rfl
theorem pG {a:GRat} (h:okR a=true->a.Num.length=0):a_ a=0:=by
 cases ho:okR a with
 | false=>exact wt ho
 | true=>
  have e:=nI ho
  have hl:=h ho
  unfold aM at e
  split at e
  ·rename_i hz;exact Rat.num_eq_zero.1 hz
  ·rename_i hz
   rw[e] at hl
   have:=dS.1 (by rw[hl];rfl)
   omega
theorem pH {a:GRat} (ho:okR a=true) (hl:a.Num.length≠0):(a_ a).num≠0/\a=⟨decide ((a_ a).num<0),lim (a_ a).num.natAbs,lim (a_ a).den⟩:=by
 have e:=nI ho
 by_cases hz:(a_ a).num=0
 ·exfalso
  unfold aM at e
  rw[if_pos hz] at e
  rw[e] at hl
  exact hl rfl
 ·refine⟨hz,?_⟩
  unfold aM at e
  rw[if_neg hz] at e
  exact e
theorem cn {a:GRat} {Q:Bool->List Int->List Int->Prop} (fa:Fr a) (h:Q (decide ((a_ a).num<0)) (lim (a_ a).num.natAbs) (lim (a_ a).den)):bM a Q:=by
 refine⟨λx=>x=(!okR a || decide (a.Num.length=0)),?_,?_⟩
 ·refine jM fa (bO (λhc=>?_) (λhc=>?_))
  ·rw[hc];rfl
  ·rw[hc,Bool.false_or]
   by_cases hl:a.Num.length=0
   ·rw[decide_eq_true hl];simp;exact List.eq_nil_of_length_eq_zero hl
   ·rw[decide_eq_false hl];simp;intro hh;exact hl (by rw[hh];rfl)
 ·rintro _ rfl
  refine bO (λhc=>?_) (λhc=>?_)
  ·have hz:a_ a=0:=pG (λho=>by rw[ho] at hc;simpa using hc)
   rw[hz] at h
   simp at h
   rw[cB,yU] at h
   exact h
  ·simp at hc
   obtain⟨_,e⟩:=pH hc.1 (λhl=>hc.2 (List.eq_nil_of_length_eq_zero hl))
   rw[show a.Neg=decide ((a_ a).num<0) from by rw[e];simp[<-e],show a.Num=lim (a_ a).num.natAbs from by rw[e];simp[<-e],show a.Den=lim (a_ a).den from by rw[e];simp[<-e]]
   exact h
theorem gi {q:Rat} {k:Nat} (h:RB k q):(lim q.num.natAbs).length<=k / 32+1/\(lim q.den).length<=k / 32+1:=⟨dR h.1,dR h.2⟩
theorem ec {m n k l:Nat} (h:m<2^k) (h':n<2^l):(lim (m*n)).length<=(k+l) / 32+1:=dR (c6 h h')
theorem vg {m n k:Nat} (h:m<2^k) (h':n<2^k):(lim (m+n)).length<=(k+1) / 32+1:=dR (by rw[Nat.pow_succ];omega)
theorem tT (p q:Rat):p+q=mkRat (sgn (decide (p.num<0)) (p.num.natAbs*q.den)+sgn (decide (q.num<0)) (q.num.natAbs*p.den)) (p.den*q.den):=by
 rw[uE,uE,kI,kI,Rat.add_def']
theorem tx (p q:Rat):p*q=mkRat (sgn (decide (p.num<0) != decide (q.num<0)) (p.num.natAbs*q.num.natAbs)) (p.den*q.den):=by
 rw[sP,kI,kI,Rat.mul_def']
theorem xh {q:Rat} (_h:q.num≠0):q⁻¹=mkRat (sgn (decide (q.num<0)) q.den) q.num.natAbs:=by
 rw[Rat.inv_def]
 by_cases hn:q.num<0
 ·rw[decide_eq_true hn]
  have e:q.num = -((q.num.natAbs:Nat):Int):=om
  rw[<-Rat.divInt_ofNat]
  show Rat.divInt q.den q.num=Rat.divInt (-(q.den:Int)) _
  rw[<-Rat.divInt_neg',<-e]
 ·rw[decide_eq_false hn]
  have e:q.num=((q.num.natAbs:Nat):Int):=om
  rw[<-Rat.divInt_ofNat]
  show Rat.divInt q.den q.num=Rat.divInt (q.den:Int) _
  rw[<-e]
theorem pY (p:Rat) {q:Rat} (h:q.num≠0):p / q=mkRat (sgn (decide (p.num<0) != decide (q.num<0)) (p.num.natAbs*q.den)) (p.den*q.num.natAbs):=by
 rw[Rat.div_def,xh h,sP,kI]
 have:p=mkRat p.num p.den:=(Rat.mkRat_self p).symm
 rw[this,Rat.mkRat_mul_mkRat,<-this]
theorem tv (p:Rat) : -p=mkRat (sgn (!decide (p.num<0)) p.num.natAbs) p.den:=by
 have e:sgn (!decide (p.num<0)) p.num.natAbs = -p.num:=by
  by_cases h:p.num<0
  ·rw[decide_eq_true h];simp only[sgn,Bool.not_true,Bool.false_eq_true,if_false];omega
  ·rw[decide_eq_false h];simp only[sgn,Bool.not_false,if_true];omega
 rw[e,<-Rat.neg_mkRat,Rat.mkRat_self]
theorem pB {a b:GRat} {k l:Nat} {Q:GRat->Prop} (fa:Fr a) (fb:Fr b) (ka:RB k (a_ a)) (kb:RB l (a_ b)) (hk:k+l+1<=35184372088000) (h:Q (aM (a_ a+a_ b))):i3 a b Q:=by
 refine cn fa (cn fb ?_)
 generalize a_ a=p at ka h ⊢
 generalize a_ b=q at kb h ⊢
 have la:=gi ka
 have lb:=gi kb
 have l1:=ec ka.1 kb.2
 have l2:=ec kb.1 ka.2
 have l3:=ec ka.2 kb.2
 have hd:p.den*q.den≠0:=Nat.mul_ne_zero p.den_nz q.den_nz
 refine du (aq _) (aq _) om (du (aq _) (aq _) om (du (aq _) (aq _) om ?_))
 simp only[aC]
 rw[tT] at h
 refine bS (λhs=>?_) (λhs=>?_)
 ·refine qB (aq _) (aq _) (by unfold SM;omega) ⟨by omega,by omega⟩ ?_
  simp only[aC]
  have l4:(lim (p.num.natAbs*q.den+q.num.natAbs*p.den)).length<=(k+l+1) / 32+1:=vg (c6 ka.1 kb.2) (by rw[Nat.add_comm k];exact c6 kb.1 ka.2)
  refine cR (aq _) (aq _) om om (by rw[aC];exact hd) ?_
  rw[aC,aC,uF]
  rw[<-hs] at h
  exact h
 ·refine d6 (aq _) (aq _) (by unfold SM;omega) (by unfold SM;omega) ?_
  simp only[aC]
  refine condT (λhc=>?_) (λhc=>?_)
  ·have hle:q.num.natAbs*p.den<=p.num.natAbs*q.den:=by
    rcases Nat.lt_or_ge (p.num.natAbs*q.den) (q.num.natAbs*p.den) with h1 | h1
    ·have:=iJ.2 h1;omega
    ·exact h1
   refine lS (aq _) (aq _) (by unfold SM;omega) (by unfold SM;omega) (λhh=>by rw[aC,aC] at hh;omega) (λ_=>?_)
   simp only[aC]
   have l4:=b6 (Nat.sub_le (p.num.natAbs*q.den) (q.num.natAbs*p.den))
   refine cR (aq _) (aq _) om om (by rw[aC];exact hd) ?_
   rw[aC,aC,oR hs hle]
   exact h
  ·have hle:p.num.natAbs*q.den<=q.num.natAbs*p.den:=by
    rcases Nat.lt_or_ge (p.num.natAbs*q.den) (q.num.natAbs*p.den) with h1 | h1
    ·omega
    ·exfalso
     apply hc
     unfold kg
     split
     ·omega
     ·split<;>omega
   refine lS (aq _) (aq _) (by unfold SM;omega) (by unfold SM;omega) (λhh=>by rw[aC,aC] at hh;omega) (λ_=>?_)
   simp only[aC]
   have l4:=b6 (Nat.sub_le (q.num.natAbs*p.den) (p.num.natAbs*q.den))
   refine cR (aq _) (aq _) om om (by rw[aC];exact hd) ?_
   rw[aC,aC,oR (λe=>hs e.symm) hle,Int.add_comm]
   exact h
theorem py {a b:GRat} {k l:Nat} {Q:GRat->Prop} (fa:Fr a) (fb:Fr b) (ka:RB k (a_ a)) (kb:RB l (a_ b)) (hk:k+l+1<=35184372088000) (h:Q (aM (a_ a*a_ b))):c8 a b Q:=by
 refine cn fa (cn fb ?_)
 generalize a_ a=p at ka h ⊢
 generalize a_ b=q at kb h ⊢
 have la:=gi ka
 have lb:=gi kb
 have l1:=ec ka.1 kb.1
 have l3:=ec ka.2 kb.2
 have hd:p.den*q.den≠0:=Nat.mul_ne_zero p.den_nz q.den_nz
 refine du (aq _) (aq _) om (du (aq _) (aq _) om ?_)
 simp only[aC]
 refine cR (aq _) (aq _) om om (by rw[aC];exact hd) ?_
 rw[aC,aC,<-tx]
 exact h
theorem pz {a b:GRat} {k l:Nat} {Q:GRat->Option Int->Prop} (fa:Fr a) (fb:Fr b) (ka:RB k (a_ a)) (kb:RB l (a_ b)) (hk:k+l+1<=35184372088000)
  (h0:a_ b=0->Q (aM 0) (some 8)) (h:a_ b≠0->Q (aM (a_ a / a_ b)) none):dw a b Q:=by
 refine cn fa (cn fb ?_)
 generalize a_ a=p at ka h ⊢
 generalize a_ b=q at kb h h0 ⊢
 have la:=gi ka
 have lb:=gi kb
 have l1:=ec ka.1 kb.2
 have l3:=ec ka.2 kb.1
 refine bS (λhc=>?_) (λhc=>?_)
 ·rw[dS] at hc
  exact h0 (Rat.num_eq_zero.1 om)
 ·have hq:q.num≠0:=λhh=>hc (dS.2 om)
  have hd:p.den*q.num.natAbs≠0:=Nat.mul_ne_zero p.den_nz om
  refine du (aq _) (aq _) om (du (aq _) (aq _) om ?_)
  simp only[aC]
  refine cR (aq _) (aq _) om om (by rw[aC];exact hd) ?_
  rw[aC,aC,<-pY p hq]
  exact h (λhh=>hq (by rw[hh];rfl))
theorem px {a:GRat} {k:Nat} {Q:GRat->Prop} (fa:Fr a) (ka:RB k (a_ a)) (hk:k<=35184372088000) (h:Q (aM (-a_ a))):i2 a Q:=by
 refine cn fa ?_
 generalize a_ a=p at ka h ⊢
 have la:=gi ka
 refine cR (aq _) (aq _) om om (by rw[aC];exact p.den_nz) ?_
 rw[aC,aC,<-tv]
 exact h
theorem kS {a b:GRat} {k l:Nat} {Q:GRat->Prop} (fa:Fr a) (fb:Fr b) (ka:RB k (a_ a)) (kb:RB l (a_ b)) (hk:k+l+1<=35184372088000) (h:Q (aM (a_ a-a_ b))):cO a b Q:=by
 refine⟨_,px fb kb om rfl,_,pB fa (lj (qd kb) om) ka (by rw[cx];exact qd kb) hk rfl,?_⟩
 rw[cx,<-Rat.sub_eq_add_neg]
 exact h
def iS (q:Rat):Int:=if q.num=0 then 0 else if q.num<0 then -1 else 1
theorem kp {a:GRat} {Q:Int->Prop} (fa:Fr a) (h:Q (iS (a_ a))):dW a Q:=by
 refine cn fa ?_
 generalize a_ a=p at h ⊢
 unfold iS at h
 refine bS (λhc=>?_) (λhc=>?_)
 ·rw[dS] at hc
  rw[if_pos om] at h;exact h
 ·have hq:p.num≠0:=λhh=>hc (dS.2 om)
  rw[if_neg hq] at h
  refine condT (λhs=>?_) (λhs=>?_)
  ·rw[if_pos hs] at h;exact h
  ·rw[if_neg hs] at h;exact h
theorem pA {a b:GRat} {k l:Nat} {Q:Int->Prop} (fa:Fr a) (fb:Fr b) (ka:RB k (a_ a)) (kb:RB l (a_ b)) (hk:k+l+1<=35184372088000) (h:Q (iS (a_ a-a_ b))):eu a b Q:=by
 refine kS fa fb ka kb hk (kp (lj (jd ka kb) hk) ?_)
 rw[cx]
 exact h
theorem oD {n:Int} {Q:List Int->Prop} (hn:rng n) (h:Q (lim n.natAbs)):ia n Q:=by
 refine bS (λhc=>?_) (λhc=>?_)
 ·subst hc
  have:lim (Int.natAbs (-9223372036854775808))=[0,2147483648]:=by
   rw[show Int.natAbs (-9223372036854775808)=9223372036854775808 from rfl,dQ om,dQ om]
   simp[cB]
  rw[this] at h
  exact h
 ·unfold rng at hn ⊢
  refine⟨by omega,m3 om ?_⟩
  have:(max n (-n)).toNat=n.natAbs:=om
  rw[this]
  exact h
theorem qx {n:Int} {Q:GRat->Prop} (hn:rng n) (h:Q (aM (n:Rat))):d5 n Q:=by
 refine oD hn ?_
 show bW _ _ [1] _
 have hl:(lim n.natAbs).length<=64 / 32+1:=dR (by unfold rng at hn;omega)
 refine cR (aq _) rr om (by simp) (by rw[rv];omega) ?_
 rw[aC,rv,mc,show mkRat n 1=(n:Rat) from Rat.mkRat_self (n:Rat)]
 exact h
end Go.Gg
namespace Go.Gg
theorem j6 {neg:Bool} {num den:List Int} {Q:GRat->Int->Prop} (hn:Words num) (hd:Words den) (ln:num.length<=1099511627760) (ld:den.length<=1099511627760)
  (h8:val den=0->Q (aM 0) 8) (h:val den≠0->Q (aM (mkRat (sgn neg (val num)) (val den))) 0):cV neg num den Q:=by
 refine j8 hd (by unfold SM;omega) (bS (λhc=>?_) (λhc=>?_))
 ·exact h8 (eW.1 hc)
 have h0:val den≠0:=λhh=>hc (eW.2 hh)
 replace h:=h h0
 refine j8 hn (by unfold SM;omega) (bS (λhc=>?_) (λhc=>?_))
 ·rw[eW] at hc
  rw[hc,nH] at h
  exact h
 ·have hn0:val num≠0:=λhh=>hc (eW.2 hh)
  rw[pC hn0 h0] at h
  have hgp:Nat.gcd (val num) (val den)≠0:=Nat.ne_of_gt (Nat.gcd_pos_of_pos_left _ om)
  refine oe hn hd om om ?_
  have hgl:(lim (Nat.gcd (val num) (val den))).length<=1099511627760:=by
   refine Nat.le_trans (b6 (Nat.gcd_le_left _ om)) (Nat.le_trans (cG hn) ln)
  refine kP hn (aq _) om om (λhh=>absurd (by rwa[aC] at hh) hgp) (λ_=>?_)
  refine kP hd (aq _) om om (λhh=>absurd (by rwa[aC] at hh) hgp) (λ_=>?_)
  rw[aC]
  exact h
theorem fj {neg:Bool} {num den:List Int} {Q:GRat->Int->Prop} (hn:Words num) (hd:Words den) (ln:num.length<=1099511627760) (ld:den.length<=1099511627760)
  (h0:val den≠0) (h:Q (aM (mkRat (sgn neg (val num)) (val den))) 0):cV neg num den Q:=
 j6 hn hd ln ld (λhh=>absurd hh h0) (λ_=>h)
theorem xy {n:Nat}:((bt n:Int) == 1)=decide (n=1):=by
 have h:(bt n:Int)=1↔n=1:=by
  constructor
  ·intro h
   have a:=lD (n:=n)
   rw[show bt n=1 by omega] at a
   have:n≠0:=by rintro rfl;rw[rl] at h;omega
   omega
  ·rintro rfl;rfl
 by_cases hn:n=1
 ·rw[decide_eq_true hn];simpa using h.2 hn
 ·rw[decide_eq_false hn];simpa using λe=>hn (h.1 e)
theorem lL {a:GRat} {Q:Bool->Prop} (fa:Fr a) (h:Q (okR a)):fi a Q:=by
 obtain⟨hn,hd,ln,ld⟩:=fa
 rw[uL hn hd] at h
 have hpb:∀l:List Int,l.length≠0->l.length<=1099511627760->rng ((l.length:Int)-1)/\((0:Int)<=((l.length:Int)-1)/\((l.length:Int)-1)<(l.length:Int))/\ez l=(at' l ((l.length:Int)-1) != 0):=λl hl hl2=>by
  have:(l.length:Int)-1=((l.length-1:Nat):Int):=om
  refine⟨by unfold rng;omega,by omega,?_⟩
  rw[this,d9]
  simp only[ez]
  rw[decide_eq_true (by omega:0<l.length),Bool.true_and]
 have hpn:∀l:List Int,l.length=0->ez l=false:=λl hl=>by
  simp only[ez]
  rw[decide_eq_false (by omega:¬0<l.length),Bool.false_and]
 refine⟨λx=>x=decide (a.Num.length=0\/a.Den.length=0),?_,?_⟩
 ·refine bS (λhc=>?_) (λhc=>?_)
  ·rw[decide_eq_true om]
  ·by_cases hd0:a.Den.length=0
   ·rw[decide_eq_true om];simp;exact List.eq_nil_of_length_eq_zero hd0
   ·rw[decide_eq_false om];simp;intro hh;exact hd0 (by rw[hh];rfl)
 ·rintro _ rfl
  refine condT (λhc=>?_) (λhc=>?_)
  ·refine bS (λh1=>bS (λh2=>?_) (λh2=>?_)) (λh1=>?_)
   ·rw[if_pos om] at h;exact h
   ·rw[if_neg om,hpn _ (by omega:a.Num.length=0),Bool.false_and] at h;exact h
   ·rw[if_neg om,hpn a.Den om,Bool.false_and,Bool.and_false] at h;exact h
  ·obtain⟨r1,r2,r3⟩:=hpb a.Num om ln
   obtain⟨s1,s2,s3⟩:=hpb a.Den om ld
   rw[if_neg om] at h
   refine⟨r1,r2,?_⟩
   rw[<-r3]
   refine bO (λhp=>⟨s1,s2,?_⟩) (λhp=>?_)
   ·rw[hp,Bool.true_and] at h
    rw[<-s3]
    refine bO (λhq=>?_) (λhq=>?_)
    ·rw[hq,Bool.true_and] at h
     refine oe hn hd om om ?_
     have hgl:(lim (Nat.gcd (val a.Num) (val a.Den))).length<=1099511627760:=by
      refine Nat.le_trans (b6 (Nat.gcd_le_left _ ?_)) (Nat.le_trans (cG hn) ln)
      have:=(lw hn hp).2
      omega
     refine j8 (aq _) (by unfold SM;omega) ?_
     rw[aC,xy]
     exact h
    ·rw[hq,Bool.false_and] at h;exact h
   ·rw[hp,Bool.false_and] at h;exact h
theorem cX {a:GRat} {Q:Bool->List Int->List Int->Prop} (fa:Fr a) (h:Q (decide ((a_ a).num<0)) (lim (a_ a).num.natAbs) (lim (a_ a).den)):cu a Q:=by
 refine⟨λx=>x=(!okR a || decide (a.Num.length=0)),?_,?_⟩
 ·refine lL fa (bO (λhc=>?_) (λhc=>?_))
  ·rw[hc];rfl
  ·have hc:okR a=true:=by simpa using hc
   rw[hc,Bool.not_true,Bool.false_or]
   by_cases hl:a.Num.length=0
   ·rw[decide_eq_true hl];simp;exact List.eq_nil_of_length_eq_zero hl
   ·rw[decide_eq_false hl];simp;intro hh;exact hl (by rw[hh];rfl)
 ·rintro _ rfl
  refine bO (λhc=>?_) (λhc=>?_)
  ·have hz:a_ a=0:=pG (λho=>by rw[ho] at hc;simpa using hc)
   rw[hz] at h
   simp at h
   rw[cB,yU] at h
   exact h
  ·simp at hc
   obtain⟨_,e⟩:=pH hc.1 (λhl=>hc.2 (List.eq_nil_of_length_eq_zero hl))
   rw[show a.Neg=decide ((a_ a).num<0) from by rw[e];simp[<-e],show a.Num=lim (a_ a).num.natAbs from by rw[e];simp[<-e],show a.Den=lim (a_ a).den from by rw[e];simp[<-e]]
   exact h
theorem sY {a b:GRat} {k l:Nat} {Q:GRat->Prop} (fa:Fr a) (fb:Fr b) (ka:RB k (a_ a)) (kb:RB l (a_ b)) (hk:k+l+1<=35184372088000) (h:Q (aM (a_ a+a_ b))):kO a b Q:=by
 refine cX fa (cX fb ?_)
 generalize a_ a=p at ka h ⊢
 generalize a_ b=q at kb h ⊢
 have la:=gi ka
 have lb:=gi kb
 have l1:=ec ka.1 kb.2
 have l2:=ec kb.1 ka.2
 have l3:=ec ka.2 kb.2
 have hd:p.den*q.den≠0:=Nat.mul_ne_zero p.den_nz q.den_nz
 refine dH (aq _) (aq _) om (dH (aq _) (aq _) om (dH (aq _) (aq _) om ?_))
 simp only[aC]
 rw[tT] at h
 refine bS (λhs=>?_) (λhs=>?_)
 ·refine sZ (aq _) (aq _) ⟨by omega,by omega⟩ ?_
  simp only[aC]
  have l4:(lim (p.num.natAbs*q.den+q.num.natAbs*p.den)).length<=(k+l+1) / 32+1:=vg (c6 ka.1 kb.2) (by rw[Nat.add_comm k];exact c6 kb.1 ka.2)
  refine fj (aq _) (aq _) om om (by rw[aC];exact hd) ?_
  rw[aC,aC,uF]
  rw[<-hs] at h
  exact h
 ·refine xg (kQ (aq _) (aq _) (by unfold SM;omega) (by unfold SM;omega) ?_)
  simp only[aC]
  refine condT (λhc=>?_) (λhc=>?_)
  ·have hlt:p.num.natAbs*q.den<q.num.natAbs*p.den:=iJ.1 hc
   refine ji (aq _) (aq _) (by unfold SM;omega) (by unfold SM;omega) (λhh=>by rw[aC,aC] at hh;omega) (λ_=>?_)
   simp only[aC]
   have l4:=b6 (Nat.sub_le (q.num.natAbs*p.den) (p.num.natAbs*q.den))
   refine fj (aq _) (aq _) om om (by rw[aC];exact hd) ?_
   rw[aC,aC,oR (λe=>hs e.symm) om,Int.add_comm]
   exact h
  ·have hle:q.num.natAbs*p.den<=p.num.natAbs*q.den:=by
    rcases Nat.lt_or_ge (p.num.natAbs*q.den) (q.num.natAbs*p.den) with h1 | h1
    ·exact absurd (iJ.2 h1) hc
    ·exact h1
   refine ji (aq _) (aq _) (by unfold SM;omega) (by unfold SM;omega) (λhh=>by rw[aC,aC] at hh;omega) (λ_=>?_)
   simp only[aC]
   have l4:=b6 (Nat.sub_le (p.num.natAbs*q.den) (q.num.natAbs*p.den))
   refine fj (aq _) (aq _) om om (by rw[aC];exact hd) ?_
   rw[aC,aC,oR hs hle]
   exact h
theorem sV {a b:GRat} {k l:Nat} {Q:GRat->Prop} (fa:Fr a) (fb:Fr b) (ka:RB k (a_ a)) (kb:RB l (a_ b)) (hk:k+l+1<=35184372088000) (h:Q (aM (a_ a*a_ b))):eq a b Q:=by
 refine cX fa (cX fb ?_)
 generalize a_ a=p at ka h ⊢
 generalize a_ b=q at kb h ⊢
 have la:=gi ka
 have lb:=gi kb
 have l1:=ec ka.1 kb.1
 have l3:=ec ka.2 kb.2
 have hd:p.den*q.den≠0:=Nat.mul_ne_zero p.den_nz q.den_nz
 refine dH (aq _) (aq _) om (dH (aq _) (aq _) om ?_)
 simp only[aC]
 refine fj (aq _) (aq _) om om (by rw[aC];exact hd) ?_
 rw[aC,aC,<-tx]
 exact h
theorem sW {a b:GRat} {k l:Nat} {Q:GRat->Int->Prop} (fa:Fr a) (fb:Fr b) (ka:RB k (a_ a)) (kb:RB l (a_ b)) (hk:k+l+1<=35184372088000)
  (h0:a_ b=0->Q (aM 0) 8) (h:a_ b≠0->Q (aM (a_ a / a_ b)) 0):fE a b Q:=by
 refine cX fa (cX fb ?_)
 generalize a_ a=p at ka h ⊢
 generalize a_ b=q at kb h h0 ⊢
 have la:=gi ka
 have lb:=gi kb
 have l1:=ec ka.1 kb.2
 have l3:=ec ka.2 kb.1
 refine dH (aq _) (aq _) om (dH (aq _) (aq _) om ?_)
 simp only[aC]
 refine j6 (aq _) (aq _) om om (λhz=>?_) (λhz=>?_)
 ·rw[aC] at hz
  refine h0 (Rat.num_eq_zero.1 ?_)
  rcases Nat.mul_eq_zero.1 hz with hh | hh
  ·exact absurd hh p.den_nz
  ·omega
 ·rw[aC] at hz
  have hq:q.num≠0:=λhh=>hz (by rw[hh];simp)
  rw[aC,aC,<-pY p hq]
  exact h (λhh=>hq (by rw[hh];rfl))
theorem sU {a:GRat} {k:Nat} {Q:GRat->Prop} (fa:Fr a) (ka:RB k (a_ a)) (hk:k<=35184372088000) (h:Q (aM (-a_ a))):kM a Q:=by
 refine cX fa ?_
 generalize a_ a=p at ka h ⊢
 have la:=gi ka
 refine fj (aq _) (aq _) om om (by rw[aC];exact p.den_nz) ?_
 rw[aC,aC,<-tv]
 exact h
theorem od {a b:GRat} {k l:Nat} {Q:GRat->Prop} (fa:Fr a) (fb:Fr b) (ka:RB k (a_ a)) (kb:RB l (a_ b)) (hk:k+l+1<=35184372088000) (h:Q (aM (a_ a-a_ b))):ek a b Q:=by
 refine⟨_,sU fb kb om rfl,_,sY fa (lj (qd kb) om) ka (by rw[cx];exact qd kb) hk rfl,?_⟩
 rw[cx,<-Rat.sub_eq_add_neg]
 exact h
theorem mL {a:GRat} {Q:Int->Prop} (fa:Fr a) (h:Q (iS (a_ a))):dM a Q:=by
 refine cX fa ?_
 generalize a_ a=p at h ⊢
 unfold iS at h
 refine bS (λhc=>?_) (λhc=>?_)
 ·rw[dS] at hc
  rw[if_pos om] at h;exact h
 ·have hq:p.num≠0:=λhh=>hc (dS.2 om)
  rw[if_neg hq] at h
  refine condT (λhs=>?_) (λhs=>?_)
  ·rw[if_pos hs] at h;exact h
  ·rw[if_neg hs] at h;exact h
theorem sX {a b:GRat} {k l:Nat} {Q:Int->Prop} (fa:Fr a) (fb:Fr b) (ka:RB k (a_ a)) (kb:RB l (a_ b)) (hk:k+l+1<=35184372088000) (h:Q (iS (a_ a-a_ b))):fF a b Q:=by
 refine od fa fb ka kb hk (mL (lj (jd ka kb) hk) ?_)
 rw[cx]
 exact h
theorem mK {n:Int} {Q:List Int->Prop} (hn:rng n) (h:∀l,Words l->l.length=2->val l=n.natAbs->Q l):iB n Q:=by
 unfold rng at hn
 refine xg ?_
 have key:∀u:Int,u=n.natAbs->Q [(IntKind.wrap .u32 u),(IntKind.wrap .u32 (u / 2^(Int.toNat 32)))]:=by
  intro u hu
  rw[wrap_u32,wrap_u32]
  have h32:(2:Int)^(Int.toNat 32)=4294967296:=rfl
  rw[h32]
  have hw2:Words [u / 4294967296 % 4294967296]:=Words.one om om
  have hw:Words [u % 4294967296,u / 4294967296 % 4294967296]:=by
   intro i
   match i with
   | 0=>simp;omega
   | 1=>simp;omega
   | i+2=>simp
  refine h _ hw rfl ?_
  rw[gS hw,gS hw2,j0]
  omega
 refine condT (λhc=>eY ?_) (λhc=>?_)
 ·rw[kE,kE]
  exact key _ om
 ·rw[kE]
  exact key _ om
theorem mM {n d:Int} {Q:GRat->Int->Prop} (hn:rng n) (hd:rng d) (h0:d=0->Q (aM 0) 8) (h:d≠0->Q (aM ((n:Rat) / (d:Rat))) 0):iE n d Q:=by
 refine mK hn λl1 w1 e1 v1=>mK hd λl2 w2 e2 v2=>?_
 refine j6 w1 w2 om om (λhz=>?_) (λhz=>?_)
 ·exact h0 om
 ·rw[v1,v2]
  have hd0:d≠0:=om
  have e:=pY (n:Rat) (q:=(d:Rat)) (by simpa using hd0)
  simp only[Rat.num_intCast,Rat.den_intCast,Nat.mul_one,Nat.one_mul] at e
  have h2:=h hd0
  rw[e] at h2
  exact h2
theorem pk {n:Int} {Q:GRat->Prop} (hn:rng n) (h:Q (aM (n:Rat))):eo n Q:=by
 refine mM hn (by unfold rng;omega) (λhh=>absurd hh om) (λ_=>?_)
 have:(n:Rat) / ((1:Int):Rat)=n:=by
  rw[Rat.div_def]
  show(n:Rat)*(1:Rat)⁻¹=n
  rw[show(1:Rat)⁻¹=1 from(Rat.mul_one _).symm.trans (Rat.inv_mul_cancel 1 (by decide)),Rat.mul_one]
 rw[this]
 exact h
end Go.Gg
namespace Go.Gg
theorem xo {α:Type} [Inhabited α] {l m:List α} (hl:l.length=m.length) (h:∀i:Nat,i<l.length->at' l (i:Int)=at' m (i:Int)):l=m:=by
 refine List.ext_getElem hl λi h1 h2=>?_
 have:=h i h1
 simp only[at',Int.toNat_natCast,List.getD_eq_getElem?_getD,List.getElem?_eq_getElem h1,List.getElem?_eq_getElem h2,Option.getD_some] at this
 exact this
instance decGRat:DecidableEq GRat:=λ_ _=>decidable_of_iff _ na
theorem nj {a b:List Int} {Q:Bool->Prop} (la:a.length<=1099511627776) (h:Q (decide (a=b))):iK a b Q:=by
 refine eD (λhc=>?_) (λhc=>?_)
 ·rw[decide_eq_false (λe=>hc (by rw[e]))] at h;exact h
 ·have hl:a.length=b.length:=om
  refine⟨λx=>∃i:Nat,x=i/\i<=a.length/\∀j:Nat,j<i->at' a (j:Int)=at' b (j:Int),λx=>a.length-x.toNat,⟨0,rfl,by omega,λj hj=>absurd hj om⟩,?_⟩
  rintro _ ⟨i,rfl,hi,hI⟩
  refine condT (λhc=>⟨⟨by omega,hc⟩,⟨by omega,by omega⟩,eD (λhne=>?_) (λhe=>⟨by unfold rng;omega,⟨i+1,by omega,by omega,λj hj=>?_⟩,by dsimp only;omega⟩)⟩) (λhc=>?_)
  ·rw[decide_eq_false (λe=>hne (by rw[e]))] at h;exact h
  ·rcases Nat.lt_or_ge j i with h1 | h1
   ·exact hI j h1
   ·obtain rfl:j=i:=om
    exact he
  ·rw[decide_eq_true (xo hl (λj hj=>hI j om))] at h;exact h
theorem p_ {a b:GRat} {Q:Bool->Prop} (la:a.Num.length<=1099511627776) (ld:a.Den.length<=1099511627776) (h:Q (decide (a=b))):fB a b Q:=by
 obtain⟨n,x,y⟩:=a
 obtain⟨n',x',y'⟩:=b
 refine bS (λh1=>?_) (λh1=>?_)
 ·refine nj la (condT (λh2=>?_) (λh2=>?_))
  ·refine nj ld ?_
   dsimp only at h1 h2 ⊢
   subst h1 h2
   by_cases h3:y=y'
   ·subst h3;rw[decide_eq_true rfl] at h ⊢;exact h
   ·rw[decide_eq_false h3];rw[decide_eq_false (λe=>h3 (by injection e))] at h;exact h
  ·rw[decide_eq_false (λe=>h2 (by injection e))] at h;exact h
 ·rw[decide_eq_false (λe=>h1 (by injection e))] at h;exact h
theorem tP {a b:List GRat} {Q:Bool->Prop} (la:a.length<=1099511627776) (hs:∀i:Nat,i<a.length->(at' a (i:Int)).Num.length<=1099511627776/\(at' a (i:Int)).Den.length<=1099511627776)
  (h:Q (decide (a=b))):jq a b Q:=by
 refine eD (λhc=>?_) (λhc=>?_)
 ·rw[decide_eq_false (λe=>hc (by rw[e]))] at h;exact h
 ·have hl:a.length=b.length:=om
  refine⟨λx=>∃i:Nat,x=i/\i<=a.length/\∀j:Nat,j<i->at' a (j:Int)=at' b (j:Int),λx=>a.length-x.toNat,⟨0,rfl,by omega,λj hj=>absurd hj om⟩,?_⟩
  rintro _ ⟨i,rfl,hi,hI⟩
  refine condT (λhc=>⟨⟨by omega,hc⟩,⟨by omega,by omega⟩,_,p_ (hs i om).1 (hs i om).2 rfl,bO (λhne=>?_) (λhe=>⟨by unfold rng;omega,⟨i+1,by omega,by omega,λj hj=>?_⟩,by dsimp only;omega⟩)⟩) (λhc=>?_)
  ·rw[Bool.not_eq_true',decide_eq_false_iff_not] at hne
   rw[decide_eq_false (λe=>hne (by rw[e]))] at h;exact h
  ·rw[Bool.not_eq_false',decide_eq_true_iff] at he
   rcases Nat.lt_or_ge j i with h1 | h1
   ·exact hI j h1
   ·obtain rfl:j=i:=om
    exact he
  ·rw[decide_eq_true (xo hl (λj hj=>hI j om))] at h;exact h
theorem p9 {a:List GRat} {Q:Bool->Prop} (la:a.length<=1099511627776) (hs:∀i:Nat,i<a.length->(at' a (i:Int)).Num.length<=1099511627776/\(at' a (i:Int)).Den.length<=1099511627776)
  (h:Q true):jq a a Q:=tP la hs (by rw[decide_eq_true rfl];exact h)
def m_ (e:Int):Option Int:=if e=0 then none else some e
end Go.Gg
namespace Go.Gg
def Rp (k:Nat) (a:GRat) (q:Rat):Prop:=Fr a/\a_ a=q/\RB k q
def WrR (a:GRat):Prop:=Words a.Num/\Words a.Den
def WrL (l:List GRat):Prop:=∀i:Nat,i<l.length->WrR (at' l (i:Int))
abbrev cap:Nat:=35184372088000
theorem Rp.of {q:Rat} {k:Nat} (h:RB k q) (hk:k<=cap):Rp k (aM q) q:=⟨lj h hk,cx q,h⟩
theorem Rp.mono {a:GRat} {q:Rat} {k l:Nat} (h:Rp k a q) (hkl:k<=l):Rp l a q:=⟨h.1,h.2.1,h.2.2.mono hkl⟩
theorem Rp.self {a:GRat} {k:Nat} (h:Fr a) (hb:RB k (a_ a)):Rp k a (a_ a):=⟨h,rfl,hb⟩
theorem Rp.len {a:GRat} {q:Rat} {k:Nat} (h:Rp k a q):a.Num.length<=1099511627776/\a.Den.length<=1099511627776:=⟨Nat.le_trans h.1.2.2.1 om,Nat.le_trans h.1.2.2.2 om⟩
theorem Rp.zero {k:Nat} (hk:1<=k) (hk2:k<=cap):Rp k (⟨false,[],[]⟩:GRat) 0:=.of (sr k hk) hk2
theorem fJ {n:Int} (hn:rng n):RB 64 (n:Rat):=xF om (by unfold rng at hn;omega)
theorem wK {q:Rat}:iS q<0↔q<0:=by
 unfold iS
 have h1:q.num<0↔q<0:=by
  have:=Rat.num_nonneg (q:=q)
  rw[<-Int.not_le,this,Rat.not_le]
 split
 ·rename_i h;rw[h] at h1;simpa using h1
 ·split
  ·rename_i h;simpa using h1.1 h
  ·rename_i h;simpa using λhh=>h (h1.2 hh)
theorem lq {q:Rat}:iS q=0↔q=0:=by
 unfold iS
 constructor
 ·intro h
  split at h
  ·rename_i h0;exact Rat.num_eq_zero.1 h0
  ·split at h<;>omega
 ·rintro rfl;rfl
theorem kJ {q:Rat}:0<=iS q↔0<=q:=by rw[<-Int.not_lt,wK,Rat.not_lt]
theorem wJ {q:Rat}:0<iS q↔0<q:=by
 have h1:=@kJ q
 have h2:=@lq q
 constructor
 ·intro h
  have h3:=h1.1 om
  rcases Rat.le_iff_lt_or_eq.1 h3 with h4 | h4
  ·exact h4
  ·have:=h2.2 h4.symm;omega
 ·intro h
  have h3:=h1.2 (Rat.le_of_lt h)
  have h4:iS q≠0:=λe=>by rw[h2.1 e] at h;exact Rat.lt_irrefl h
  omega
theorem sQ {q:Rat}:iS q<=0↔q<=0:=by rw[<-Int.not_lt,wJ,Rat.not_lt]
theorem sI {p q:Rat}:p-q<=0↔p<=q:=by constructor<;>intro h<;>grind
theorem zF {a b:GRat} {p q:Rat} {k l:Nat} {Q:GRat->Prop} (ha:Rp k a p) (hb:Rp l b q) (hk:k+l+1<=cap) (h:Rp (k+l+1) (aM (p-q)) (p-q)->Q (aM (p-q))):cO a b Q:=by
 obtain⟨fa,rfl,ka⟩:=ha
 obtain⟨fb,rfl,kb⟩:=hb
 exact kS fa fb ka kb hk (h (.of (jd ka kb) hk))
theorem t5 {a b:GRat} {p q:Rat} {k l:Nat} {K:GRat->Prop} (ha:Rp k a p) (hb:Rp l b q) (hk:k+l+1<=cap) (h:Rp (k+l+1) (aM (p-q)) (p-q)->K (aM (p-q))):cI (cO a b) K:=
 ⟨_,zF ha hb hk (λ_=>rfl),h (.of (jd ha.2.2 hb.2.2) hk)⟩
theorem yS {a b:GRat} {p q:Rat} {k l:Nat} {Q:GRat->Prop} (ha:Rp k a p) (hb:Rp l b q) (hk:k+l+1<=cap) (h:Rp (k+l) (aM (p*q)) (p*q)->Q (aM (p*q))):c8 a b Q:=by
 obtain⟨fa,rfl,ka⟩:=ha
 obtain⟨fb,rfl,kb⟩:=hb
 exact py fa fb ka kb hk (h (.of (li ka kb) (by simp only[cap] at hk ⊢;omega)))
theorem xb {a b:GRat} {p q:Rat} {k l:Nat} {K:GRat->Prop} (ha:Rp k a p) (hb:Rp l b q) (hk:k+l+1<=cap) (h:Rp (k+l) (aM (p*q)) (p*q)->K (aM (p*q))):cI (c8 a b) K:=
 ⟨_,yS ha hb hk (λ_=>rfl),h (.of (li ha.2.2 hb.2.2) (by simp only[cap] at hk ⊢;omega))⟩
theorem zX {a b:GRat} {p q:Rat} {k l:Nat} {Q:GRat->Option Int->Prop} (ha:Rp k a p) (hb:Rp l b q) (hk:k+l+1<=cap) (h0:q=0->Q (aM 0) (some 8)) (h:q≠0->Rp (k+l) (aM (p / q)) (p / q)->Q (aM (p / q)) none):dw a b Q:=by
 obtain⟨fa,rfl,ka⟩:=ha
 obtain⟨fb,rfl,kb⟩:=hb
 exact pz fa fb ka kb hk h0 (λhn=>h hn (.of (mC ka kb) (by simp only[cap] at hk ⊢;omega)))
theorem xq {a b:GRat} {p q:Rat} {k l:Nat} {K:GRat->Option Int->Prop} (ha:Rp k a p) (hb:Rp l b q) (hk:k+l+1<=cap) (hq:q≠0) (h:Rp (k+l) (aM (p / q)) (p / q)->K (aM (p / q)) none):pZ (dw a b) K:=
 ⟨_,_,zX ha hb hk (λe=>absurd e hq) (λ_ _=>⟨rfl,rfl⟩),h (.of (mC ha.2.2 hb.2.2) (by simp only[cap] at hk ⊢;omega))⟩
theorem y_ {a:GRat} {p:Rat} {k:Nat} {Q:Int->Prop} (ha:Rp k a p) (h:Q (iS p)):dW a Q:=by
 obtain⟨fa,rfl,ka⟩:=ha
 exact kp fa h
theorem zZ {a b:GRat} {p q:Rat} {k l:Nat} {Q:Int->Prop} (ha:Rp k a p) (hb:Rp l b q) (hk:k+l+1<=cap) (h:Q (iS (p-q))):eu a b Q:=by
 obtain⟨fa,rfl,ka⟩:=ha
 obtain⟨fb,rfl,kb⟩:=hb
 exact pA fa fb ka kb hk h
theorem zt {a b:GRat} {p q:Rat} {k l:Nat} {K:Int->Prop} (ha:Rp k a p) (hb:Rp l b q) (hk:k+l+1<=cap) (h:K (iS (p-q))):cI (eu a b) K:=⟨_,zZ ha hb hk rfl,h⟩
theorem wV {n:Int} {K:GRat->Prop} (hn:rng n) (h:Rp 64 (aM (n:Rat)) (n:Rat)->K (aM (n:Rat))):cI (d5 n) K:=⟨_,qx hn rfl,h (.of (fJ hn) (by decide))⟩
theorem zE {a b:GRat} {p q:Rat} {k l:Nat} {Q:GRat->Prop} (ha:Rp k a p) (hb:Rp l b q) (hk:k+l+1<=cap) (h:Rp (k+l+1) (aM (p-q)) (p-q)->Q (aM (p-q))):ek a b Q:=by
 obtain⟨fa,rfl,ka⟩:=ha
 obtain⟨fb,rfl,kb⟩:=hb
 exact od fa fb ka kb hk (h (.of (jd ka kb) hk))
theorem t4 {a b:GRat} {p q:Rat} {k l:Nat} {K:GRat->Prop} (ha:Rp k a p) (hb:Rp l b q) (hk:k+l+1<=cap) (h:Rp (k+l+1) (aM (p-q)) (p-q)->K (aM (p-q))):cI (ek a b) K:=
 ⟨_,zE ha hb hk (λ_=>rfl),h (.of (jd ha.2.2 hb.2.2) hk)⟩
theorem yR {a b:GRat} {p q:Rat} {k l:Nat} {Q:GRat->Prop} (ha:Rp k a p) (hb:Rp l b q) (hk:k+l+1<=cap) (h:Rp (k+l) (aM (p*q)) (p*q)->Q (aM (p*q))):eq a b Q:=by
 obtain⟨fa,rfl,ka⟩:=ha
 obtain⟨fb,rfl,kb⟩:=hb
 exact sV fa fb ka kb hk (h (.of (li ka kb) (by simp only[cap] at hk ⊢;omega)))
theorem xa {a b:GRat} {p q:Rat} {k l:Nat} {K:GRat->Prop} (ha:Rp k a p) (hb:Rp l b q) (hk:k+l+1<=cap) (h:Rp (k+l) (aM (p*q)) (p*q)->K (aM (p*q))):cI (eq a b) K:=
 ⟨_,yR ha hb hk (λ_=>rfl),h (.of (li ha.2.2 hb.2.2) (by simp only[cap] at hk ⊢;omega))⟩
theorem zW {a b:GRat} {p q:Rat} {k l:Nat} {Q:GRat->Int->Prop} (ha:Rp k a p) (hb:Rp l b q) (hk:k+l+1<=cap) (h0:q=0->Q (aM 0) (8)) (h:q≠0->Rp (k+l) (aM (p / q)) (p / q)->Q (aM (p / q)) 0):fE a b Q:=by
 obtain⟨fa,rfl,ka⟩:=ha
 obtain⟨fb,rfl,kb⟩:=hb
 exact sW fa fb ka kb hk h0 (λhn=>h hn (.of (mC ka kb) (by simp only[cap] at hk ⊢;omega)))
theorem xp {a b:GRat} {p q:Rat} {k l:Nat} {K:GRat->Int->Prop} (ha:Rp k a p) (hb:Rp l b q) (hk:k+l+1<=cap) (hq:q≠0) (h:Rp (k+l) (aM (p / q)) (p / q)->K (aM (p / q)) 0):pZ (fE a b) K:=
 ⟨_,_,zW ha hb hk (λe=>absurd e hq) (λ_ _=>⟨rfl,rfl⟩),h (.of (mC ha.2.2 hb.2.2) (by simp only[cap] at hk ⊢;omega))⟩
theorem wH {a:GRat} {p:Rat} {k:Nat} {Q:Int->Prop} (ha:Rp k a p) (h:Q (iS p)):dM a Q:=by
 obtain⟨fa,rfl,ka⟩:=ha
 exact mL fa h
theorem xU {a:GRat} {p:Rat} {k:Nat} {K:Int->Prop} (ha:Rp k a p) (h:K (iS p)):cI (dM a) K:=⟨_,wH ha rfl,h⟩
theorem zY {a b:GRat} {p q:Rat} {k l:Nat} {Q:Int->Prop} (ha:Rp k a p) (hb:Rp l b q) (hk:k+l+1<=cap) (h:Q (iS (p-q))):fF a b Q:=by
 obtain⟨fa,rfl,ka⟩:=ha
 obtain⟨fb,rfl,kb⟩:=hb
 exact sX fa fb ka kb hk h
theorem xu {a b:GRat} {p q:Rat} {k l:Nat} {K:Int->Prop} (ha:Rp k a p) (hb:Rp l b q) (hk:k+l+1<=cap) (h:K (iS (p-q))):cI (fF a b) K:=⟨_,zY ha hb hk rfl,h⟩
theorem Ag {n:Int} {Q:GRat->Prop} (hn:rng n) (h:Rp 64 (aM (n:Rat)) (n:Rat)->Q (aM (n:Rat))):eo n Q:=pk hn (h (.of (fJ hn) (by decide)))
theorem uN {n:Int} {K:GRat->Prop} (hn:rng n) (h:Rp 64 (aM (n:Rat)) (n:Rat)->K (aM (n:Rat))):cI (eo n) K:=⟨_,pk hn rfl,h (.of (fJ hn) (by decide))⟩
theorem wq {a:GRat} {K:Bool->Prop} (fa:Fr a) (h:K (okR a)):cI (fi a) K:=⟨_,lL fa rfl,h⟩
def ce (a:GRat):Bool:=okR a && (decide (0<=a_ a) && decide (a_ a<=1))
theorem uf {q:Rat}:q<=1↔q.num<=(q.den:Int):=by
 rw[Rat.le_iff]
 simp
theorem oE {a:GRat} {Q:Bool->Prop} (fa:Fr a) (h:Q (ce a)):ib a Q:=by
 refine jM fa (bO (λhc=>?_) (λhc=>?_))
 ·unfold ce at h
  rw[hc,Bool.true_and] at h
  have e:=nI hc
  generalize a_ a=q at e h
  subst e
  by_cases hz:q.num=0
  ·have hq:q=0:=Rat.num_eq_zero.1 hz
   subst hq
   refine bO (λ_=>d6 (a:=[]) (b:=[]) (λi=>by simp) (λi=>by simp) (by simp) (by simp) ?_) (λhh=>by cases hh)
   exact h
  ·have e2:aM q=⟨decide (q.num<0),lim q.num.natAbs,lim q.den⟩:=by unfold aM;rw[if_neg hz]
   rw[e2] at fa ⊢
   refine bO (λhn=>?_) (λhn=>?_)
   ·simp only[Bool.not_eq_true',decide_eq_false_iff_not] at hn
    refine d6 fa.1 fa.2.1 (Nat.le_trans fa.2.2.1 om) (Nat.le_trans fa.2.2.2 om) ?_
    have e3:(decide (0<=q) && decide (q<=1))=decide (kg (val (lim q.num.natAbs)) (val (lim q.den))<=0):=by
     rw[aC,aC,decide_eq_true (Rat.num_nonneg.1 om),Bool.true_and]
     refine decide_eq_decide.2 ?_
     rw[uf]
     have:=@sg q.num.natAbs q.den
     omega
    rw[e3] at h
    exact h
   ·simp only[Bool.not_eq_false',decide_eq_true_eq] at hn
    rw[decide_eq_false (λhh=>by have:=Rat.num_nonneg.2 hh;omega),Bool.false_and] at h
    exact h
 ·unfold ce at h
  rw[hc,Bool.false_and] at h
  exact h
theorem iC {a:GRat} {k:Nat} {Q:Bool->Prop} (fa:Fr a) (ka:RB k (a_ a)) (hk:k+65<=cap) (h:Q (ce a)):eP a Q:=by
 unfold ce at h
 refine wq fa (bO (λhc=>?_) (λhc=>?_))
 ·rw[hc,Bool.true_and] at h
  refine xU (.self fa ka) (condT (λh0=>?_) (λh0=>?_))
  ·rw[decide_eq_true (kJ.1 h0),Bool.true_and] at h
   refine uN (by unfold rng;omega) λh1=>xu (.self fa ka) h1 (by simp only[cap] at hk ⊢;omega) ?_
   have e:decide (iS (a_ a-((1:Int):Rat))<=0)=decide (a_ a<=1):=decide_eq_decide.2 (by rw[sQ];exact sI)
   rw[e];exact h
  ·rw[decide_eq_false (λhh=>h0 (kJ.2 hh)),Bool.false_and] at h
   exact h
 ·rw[hc,Bool.false_and] at h
  exact h
end Go.Gg
namespace Go.Gg
end Go.Gg
namespace Go.Gg
def jY (k:Int) (n:Nat):Bool:=if k=0 then decide (n=0) else if k=1 then decide (n=1) else decide (1<=n/\n<=16)
def iw (f:GFormula) (i:Nat):Int:=
 if (at' f.Nodes (i:Int)).Kind<0\/5<(at' f.Nodes (i:Int)).Kind then 7
 else if jY (at' f.Nodes (i:Int)).Kind (at' f.Nodes (i:Int)).Args.length=false then 11
 else if ∃j<(at' f.Nodes (i:Int)).Args.length,at' (at' f.Nodes (i:Int)).Args (j:Int)<0\/f.Vars+i<=at' (at' f.Nodes (i:Int)).Args (j:Int) then 10
 else if (at' f.Nodes (i:Int)).Kind=0 then (if (at' f.Nodes (i:Int)).K≠0/\(at' f.Nodes (i:Int)).K≠1 then 3 else 0)
 else if (at' f.Nodes (i:Int)).Kind=4 then (if (at' f.Nodes (i:Int)).K<1\/((at' f.Nodes (i:Int)).Args.length:Int)<(at' f.Nodes (i:Int)).K then 3 else 0)
 else if (at' f.Nodes (i:Int)).K≠0 then 2 else 0
def nv (f:GFormula) (a:Int):Bool:=decide (0<=f.Vars/\0<=a/\(a<f.Vars\/a-f.Vars<f.Nodes.length))
def oQ (f:GFormula):Int:=
 if f.Vars<0\/24<f.Vars then 3 else if 128<f.Nodes.length then 4
 else if iq (iw f) f.Nodes.length≠0 then iq (iw f) f.Nodes.length
 else if nv f f.Top=false then 10 else 0
theorem tR {k:Int} {n:Nat} (h:jY k n=true):n<=16:=by
 unfold jY at h
 split at h
 ·simp at h;omega
 ·split at h
  ·simp at h;omega
  ·simp at h;omega
theorem lH {k:Int} {n:Nat} {Q:Bool->Prop} (h:Q (jY k n)):ff k n Q:=by
 unfold jY at h
 refine bS (λhc=>?_) (λhc=>bS (λhc1=>?_) (λhc1=>condT (λh1=>?_) (λh1=>?_)))
 ·rw[if_pos hc] at h
  rw[show((n:Int) == 0)=decide (n=0) by rw[Bool.eq_iff_iff];simp];exact h
 ·rw[if_neg hc,if_pos hc1] at h
  rw[show((n:Int) == 1)=decide (n=1) by rw[Bool.eq_iff_iff];simp;omega];exact h
 ·rw[if_neg hc,if_neg hc1] at h
  rw[show decide ((n:Int)<=16)=decide (1<=n/\n<=16) from decide_eq_decide.2 om];exact h
 ·rw[if_neg hc,if_neg hc1,decide_eq_false om] at h;exact h
theorem lG {f:GFormula} {i:Nat} {Q:Option Int->Prop} (hi:i<f.Nodes.length) (hV:0<=f.Vars/\f.Vars<=24) (hn:f.Nodes.length<=128) (h:Q (m_ (iw f i))):e_ f i Q:=by
 unfold iw at h
 refine⟨⟨by omega,by omega⟩,λy=>y=decide ((at' f.Nodes (i:Int)).Kind<0\/5<(at' f.Nodes (i:Int)).Kind),?_,?_⟩
 ·exact condT (λhc=>(decide_eq_true (Or.inl hc)).symm) (λhc=>decide_eq_decide.2 ⟨Or.inr,λhh=>hh.resolve_left hc⟩)
 rintro _ rfl
 refine condT (λhc=>?_) (λhc=>?_)
 ·rw[if_pos hc] at h;exact h
 rw[if_neg hc] at h
 refine lH (bO (λhb=>?_) (λhb=>?_))
 ·rw[if_pos (by simpa using hb)] at h;exact h
 simp only[Bool.not_eq_false'] at hb
 rw[if_neg (by rw[hb];simp)] at h
 have hl:=tR hb
 refine ko (λj=>at' (at' f.Nodes (i:Int)).Args (j:Int)<0\/f.Vars+i<=at' (at' f.Nodes (i:Int)).Args (j:Int)) om (λj next hj hI hnx=>?_) (λhall=>?_)
 ·refine⟨⟨by omega,by omega⟩,λy=>y=decide (at' (at' f.Nodes (i:Int)).Args (j:Int)<0\/f.Vars+i<=at' (at' f.Nodes (i:Int)).Args (j:Int)),?_,?_⟩
  ·exact condT (λhc2=>(decide_eq_true (Or.inl hc2)).symm) (λhc2=>⟨by unfold rng;omega,decide_eq_decide.2 ⟨Or.inr,λhh=>hh.resolve_left hc2⟩⟩)
  ·rintro _ rfl
   refine condT (λhb2=>?_) (λhb2=>hnx hb2)
   rw[if_pos ⟨j,hj,hb2⟩] at h;exact h
 rw[if_neg (by rintro⟨j,hj,hb2⟩;exact hall j hj hb2)] at h
 refine bS (λh0=>?_) (λh0=>?_)
 ·rw[if_pos h0] at h
  refine⟨λy=>y=decide ((at' f.Nodes (i:Int)).K≠0/\(at' f.Nodes (i:Int)).K≠1),?_,?_⟩
  ·refine eD (λhk=>?_) (λhk=>?_)
   ·show((at' f.Nodes (i:Int)).K != 1)=_
    rw[Bool.eq_iff_iff];simp[hk]
   ·rw[decide_eq_false (λhh=>hh.1 hk)]
  ·rintro _ rfl
   refine condT (λhk=>?_) (λhk=>?_)
   ·rw[if_pos hk] at h;exact h
   ·rw[if_neg hk] at h;exact h
 rw[if_neg h0] at h
 refine bS (λh4=>?_) (λh4=>?_)
 ·rw[if_pos h4] at h
  refine⟨λy=>y=decide ((at' f.Nodes (i:Int)).K<1\/((at' f.Nodes (i:Int)).Args.length:Int)<(at' f.Nodes (i:Int)).K),?_,?_⟩
  ·exact condT (λhk=>(decide_eq_true (Or.inl hk)).symm) (λhk=>decide_eq_decide.2 ⟨Or.inr,λhh=>hh.resolve_left hk⟩)
  ·rintro _ rfl
   refine condT (λhk=>?_) (λhk=>?_)
   ·rw[if_pos hk] at h;exact h
   ·rw[if_neg hk] at h;exact h
 rw[if_neg h4] at h
 refine eD (λhk=>?_) (λhk=>?_)
 ·rw[if_pos hk] at h;exact h
 ·rw[if_neg (λhh=>hh hk)] at h;exact h
theorem rI {f:GFormula} {i:Nat} {Q:Int->Prop} (hi:i<f.Nodes.length) (hV:0<=f.Vars/\f.Vars<=24) (hn:f.Nodes.length<=128) (h:Q (iw f i)):j5 f i Q:=by
 unfold iw at h
 have hf7:((at' f.Nodes (i:Int)).Kind≠0/\(at' f.Nodes (i:Int)).Kind≠1/\(at' f.Nodes (i:Int)).Kind≠2/\(at' f.Nodes (i:Int)).Kind≠3/\(at' f.Nodes (i:Int)).Kind≠4/\(at' f.Nodes (i:Int)).Kind≠5)->Q 7:=λhh=>by
  rw[if_pos om] at h;exact h
 refine⟨⟨by omega,by omega⟩,λy=>(0<=(at' f.Nodes (i:Int)).Kind/\(at' f.Nodes (i:Int)).Kind<=5)/\(0<=y.1/\y.1<=1/\0<=y.2/\y.2<=16)/\∀n:Nat,jY (at' f.Nodes (i:Int)).Kind n=decide (y.1<=n/\(n:Int)<=y.2),?_,?_⟩
 ·have hbig:∀n:Nat,(at' f.Nodes (i:Int)).Kind≠0->(at' f.Nodes (i:Int)).Kind≠1->jY (at' f.Nodes (i:Int)).Kind n=decide ((1:Int)<=n/\(n:Int)<=16):=λn h0 h1=>by
   rw[jY,if_neg h0,if_neg h1];exact decide_eq_decide.2 om
  refine bS (λh0:(at' f.Nodes (i:Int)).Kind=0=>⟨by omega,by decide,λn=>by rw[jY,if_pos h0];exact decide_eq_decide.2 (by dsimp only;omega)⟩) (λh0=>bS (λh1:(at' f.Nodes (i:Int)).Kind=1=>⟨by omega,by decide,λn=>by rw[jY,if_neg h0,if_pos h1];exact decide_eq_decide.2 (by dsimp only;omega)⟩) (λh1=>?_))
  exact bS (λh2:(at' f.Nodes (i:Int)).Kind=2=>⟨by omega,by decide,λn=>hbig n h0 h1⟩) (λh2=>bS (λh3:(at' f.Nodes (i:Int)).Kind=3=>⟨by omega,by decide,λn=>hbig n h0 h1⟩) (λh3=>bS (λh4:(at' f.Nodes (i:Int)).Kind=4=>⟨by omega,by decide,λn=>hbig n h0 h1⟩) (λh4=>bS (λh5:(at' f.Nodes (i:Int)).Kind=5=>⟨by omega,by decide,λn=>hbig n h0 h1⟩) (λh5=>hf7 ⟨h0,h1,h2,h3,h4,h5⟩))))
 rintro⟨lo,hi2⟩ ⟨hkind,hb,hargs⟩
 dsimp only at hb hargs
 rw[if_neg om] at h
 refine condT (λ(hc:((at' f.Nodes (i:Int)).Args.length:Int)<lo)=>?_) (λ(hc:¬((at' f.Nodes (i:Int)).Args.length:Int)<lo)=>condT (λ(hc2:hi2<((at' f.Nodes (i:Int)).Args.length:Int))=>?_) (λ(hc2:¬hi2<((at' f.Nodes (i:Int)).Args.length:Int))=>?_))
 ·rw[if_pos (by rw[hargs];exact decide_eq_false om)] at h;exact h
 ·rw[if_pos (by rw[hargs];exact decide_eq_false om)] at h;exact h
 rw[if_neg (by rw[hargs,decide_eq_true om];simp)] at h
 refine ko (n:=(at' f.Nodes (i:Int)).Args.length) (λj=>at' (at' f.Nodes (i:Int)).Args (j:Int)<0\/f.Vars+i<=at' (at' f.Nodes (i:Int)).Args (j:Int)) om (λj next hj hI hnx=>?_) (λhall=>?_)
 ·refine⟨⟨by omega,show(j:Int)<((at' f.Nodes (i:Int)).Args.length:Int) by omega⟩,condT (λhc3=>?_) (λhc3=>⟨by unfold rng;omega,condT (λhc4=>?_) (λhc4=>hnx (by rw[not_or];exact⟨hc3,hc4⟩))⟩)⟩
  ·rw[if_pos ⟨j,hj,Or.inl hc3⟩] at h;exact h
  ·rw[if_pos ⟨j,hj,Or.inr hc4⟩] at h;exact h
 rw[if_neg (by rintro⟨j,hj,hb2⟩;exact hall j hj hb2)] at h
 refine bS (λh0=>?_) (λh0=>?_)
 ·rw[if_pos h0] at h
  refine eD (λhk=>eD (λhk1=>?_) (λhk1=>?_)) (λhk=>?_)
  ·rw[if_pos ⟨hk,hk1⟩] at h;exact h
  ·rw[if_neg (λhh=>hh.2 hk1)] at h;exact h
  ·rw[if_neg (λhh=>hh.1 hk)] at h;exact h
 rw[if_neg h0] at h
 refine bS (λh4=>?_) (λh4=>?_)
 ·rw[if_pos h4] at h
  refine condT (λhk=>?_) (λhk=>condT (λhk2=>?_) (λhk2=>?_))
  ·rw[if_pos (Or.inl hk)] at h;exact h
  ·rw[if_pos (Or.inr hk2)] at h;exact h
  ·rw[if_neg (by rw[not_or];exact⟨hk,hk2⟩)] at h;exact h
 rw[if_neg h4] at h
 refine eD (λhk=>?_) (λhk=>?_)
 ·rw[if_pos hk] at h;exact h
 ·rw[if_neg (λhh=>hh hk)] at h;exact h
theorem kz {f:GFormula} {a:Int} {Q:Bool->Prop} (ha:rng a) (h:Q (nv f a)):im f a Q:=by
 unfold nv at h
 unfold rng at ha
 refine condT (λh1=>condT (λh2=>condT (λh3=>?_) (λh3=>⟨by unfold rng;omega,?_⟩)) (λh2=>?_)) (λh1=>?_)
 ·rw[decide_eq_true ⟨h1,h2,Or.inl h3⟩] at h;exact h
 ·rw[show decide (a-f.Vars<(f.Nodes.length:Int))=decide (0<=f.Vars/\0<=a/\(a<f.Vars\/a-f.Vars<f.Nodes.length)) from decide_eq_decide.2 om];exact h
 ·rw[decide_eq_false (λhh=>h2 hh.2.1)] at h;exact h
 ·rw[decide_eq_false (λhh=>h1 hh.1)] at h;exact h
theorem qs {f:GFormula} {a:Int} {Q:Bool->Prop} (ha:rng a) (h:Q (nv f a)):jy f a Q:=kz ha h
theorem kW {e:Int}:(m_ e).isSome=decide (e≠0):=by
 unfold m_
 by_cases h:e=0
 ·rw[if_pos h,decide_eq_false (λhh=>hh h)];rfl
 ·rw[if_neg h,decide_eq_true h];rfl
theorem io {f:GFormula} {Q:Option Int->Prop} (ht:rng f.Top) (h:Q (m_ (oQ f))):dY f Q:=by
 unfold oQ at h
 refine⟨λy=>y=decide (f.Vars<0\/24<f.Vars),?_,?_⟩
 ·exact condT (λhc=>(decide_eq_true (Or.inl hc)).symm) (λhc=>decide_eq_decide.2 ⟨Or.inr,λhh=>hh.resolve_left hc⟩)
 rintro _ rfl
 refine condT (λhc=>?_) (λhc=>?_)
 ·rw[if_pos hc] at h;exact h
 rw[if_neg hc] at h
 refine condT (λhc2=>?_) (λhc2=>?_)
 ·rw[if_pos om] at h;exact h
 rw[if_neg om] at h
 refine ko (λi=>iw f i≠0) om (λi next hi hI hnx=>?_) (λhall=>?_)
 ·refine lG hi om om ?_
  rw[kW]
  refine condT (λhe=>?_) (λhe=>hnx he)
  rw[eB (λj hj=>Decidable.not_not.1 (hI j hj)) he _ hi,if_pos he] at h
  exact h
 ·rw[if_neg (λhh=>hh (cr.2 λj hj=>Decidable.not_not.1 (hall j hj)))] at h
  refine kz ht (bO (λhb=>?_) (λhb=>?_))
  ·rw[if_pos (by simpa using hb)] at h;exact h
  ·rw[if_neg (by simpa using hb)] at h;exact h
theorem qt {f:GFormula} {Q:Int->Prop} (ht:rng f.Top) (h:Q (oQ f)):jz f Q:=by
 unfold oQ at h
 refine condT (λhc=>?_) (λhc=>condT (λhc1=>?_) (λhc1=>?_))
 ·rw[if_pos (Or.inl hc)] at h;exact h
 ·rw[if_pos (Or.inr hc1)] at h;exact h
 rw[if_neg om] at h
 refine condT (λhc2=>?_) (λhc2=>?_)
 ·rw[if_pos om] at h;exact h
 rw[if_neg om] at h
 refine ko (λi=>iw f i≠0) om (λi next hi hI hnx=>?_) (λhall=>?_)
 ·refine rI hi om om (eD (λhe=>?_) (λhe=>hnx (λhh=>hh he)))
  rw[eB (λj hj=>Decidable.not_not.1 (hI j hj)) he _ hi,if_pos he] at h
  exact h
 ·rw[if_neg (λhh=>hh (cr.2 λj hj=>Decidable.not_not.1 (hall j hj)))] at h
  refine qs ht (bO (λhb=>?_) (λhb=>?_))
  ·rw[if_pos (by simpa using hb)] at h;exact h
  ·rw[if_neg (by simpa using hb)] at h;exact h
structure FG (f:GFormula):Prop where
 v0:0<=f.Vars
 v24:f.Vars<=24
 n128:f.Nodes.length<=128
 node:∀i,i<f.Nodes.length->iw f i=0
 top0:0<=f.Top
 top:f.Top<f.Vars+f.Nodes.length
theorem p6 {f:GFormula}:oQ f=0↔FG f:=by
 unfold oQ
 constructor
 ·intro h
  split at h
  ·cases h
  split at h
  ·cases h
  split at h
  ·rename_i h3;exact absurd h h3
  split at h
  ·cases h
  rename_i h1 h2 h3 h4
  rw[Decidable.not_not] at h3
  have h5:=cr.1 h3
  simp only[nv,Bool.not_eq_false,decide_eq_true_eq] at h4
  exact⟨by omega,by omega,by omega,h5,by omega,by omega⟩
 ·intro h
  rw[if_neg (by have:=h.v0;have:=h.v24;omega),if_neg (by have:=h.n128;omega),if_neg (λhh=>hh (cr.2 h.node)),if_neg]
  have:=h.v0;have:=h.top0;have:=h.top
  simp only[nv,Bool.not_eq_false,decide_eq_true_eq]
  omega
structure NG (f:GFormula) (i:Nat):Prop where
 k0:0<=(at' f.Nodes (i:Int)).Kind
 k5:(at' f.Nodes (i:Int)).Kind<=5
 len:(at' f.Nodes (i:Int)).Args.length<=16
 arg:∀j:Nat,j<(at' f.Nodes (i:Int)).Args.length->0<=at' (at' f.Nodes (i:Int)).Args (j:Int)/\at' (at' f.Nodes (i:Int)).Args (j:Int)<f.Vars+i
 args:jY (at' f.Nodes (i:Int)).Kind (at' f.Nodes (i:Int)).Args.length=true
theorem mU {f:GFormula} {i:Nat} (h:iw f i=0):NG f i:=by
 unfold iw at h
 split at h
 ·cases h
 split at h
 ·cases h
 split at h
 ·cases h
 rename_i h1 h2 h3
 refine⟨by omega,by omega,tR (by simpa using h2),λj hj=>?_,by simpa using h2⟩
 rw[not_exists] at h3
 have:=h3 j
 simp only[hj,true_and,not_or] at this
 omega
end Go.Gg
namespace Go.Gg
theorem qc {y:Int} (h0:0<=y) (h1:y<4294967296):bits .and .i64 y 1=y % 2:=by
 obtain⟨m,rfl⟩:=Int.eq_ofNat_of_zero_le h0
 show IntKind.i64.wrap (((BitVec.ofInt 64 (m:Int)) &&& (BitVec.ofInt 64 1)).toNat:Int)=_
 rw[BitVec.toNat_and,BitVec.toNat_ofInt,BitVec.toNat_ofInt]
 have e1:((m:Int) % ((2^64:Nat):Int)).toNat=m:=om
 have e2:((1:Int) % ((2^64:Nat):Int)).toNat=1:=om
 rw[e1,e2,Nat.and_one_is_mod]
 have e3:m % 2=0\/m % 2=1:=om
 have e4:(m:Int) % 2=((m % 2:Nat):Int):=om
 rw[e4]
 rcases e3 with e | e<;>rw[e]<;>rfl
def inS (s i:Nat):Bool:=decide (s / 2^i % 2=1)
theorem sj {s k:Nat} (hx:s<4294967296):(bits .and .i64 ((s:Int) / 2^(Int.toNat (k:Int))) 1 == 1)=inS s k:=by
 have e:((s:Int) / 2^(Int.toNat (k:Int)))=((s / 2^k:Nat):Int):=by rw[Int.toNat_natCast];simp
 have:=Nat.div_le_self s (2^k)
 unfold inS
 rw[e]
 generalize s / 2^k=z at this
 rw[qc om om,Bool.eq_iff_iff]
 simp only[beq_iff_eq,decide_eq_true_eq]
 omega
def cnt (x:GNode) (v:List Bool):Nat->Nat
 | 0=>0
 | j+1=>cnt x v j+(if at' v (at' x.Args (j:Int))=true then 1 else 0)
def tD (x:GNode) (n:Nat):Bool:=
 if x.Kind=0 then x.K == 1 else if x.Kind=1 then (n:Int) == 0 else if x.Kind=2 then (n:Int) == (x.Args.length:Int) else if x.Kind=3 then decide ((0:Int)<n)
 else if x.Kind=4 then decide (x.K<=n) else Int.tmod n 2 == 1
def q9 (x:GNode) (v:List Bool):Bool:=tD x (cnt x v x.Args.length)
def gk (f:GFormula) (s:Nat):Nat->List Bool
 | 0=>(List.range f.Vars.toNat).map (inS s)
 | i+1=>gk f s i++[q9 (at' f.Nodes (i:Int)) (gk f s i)]
def FV (f:GFormula) (s:Nat):Bool:=at' (gk f s f.Nodes.length) f.Top
theorem iP {f:GFormula} {s:Nat}:∀i,(gk f s i).length=f.Vars.toNat+i
 | 0=>by simp[gk]
 | i+1=>by rw[gk,List.length_append,iP i];simp;omega
theorem ot {α:Type} [Inhabited α] {l m:List α} {i:Int} (h0:0<=i) (h:i<l.length):at' (l++m) i=at' l i:=by
 obtain⟨k,rfl⟩:=Int.eq_ofNat_of_zero_le h0
 have:k<l.length:=om
 simp[at',List.getD_eq_getElem?_getD,List.getElem?_append,this]
theorem ut {α:Type} [Inhabited α] {l:List α} {x:α}:at' (l++[x]) (l.length:Int)=x:=by
 simp[at',List.getD_eq_getElem?_getD]
theorem kF {f:GFormula} {s m:Nat} {a:Int} (h0:0<=a) (h:a<f.Vars.toNat+m):∀n,m<=n->at' (gk f s n) a=at' (gk f s m) a
 | 0,hn=>by
        obtain rfl:m=0:=om
        rfl
 | n+1,hn=>by
  rcases Nat.lt_or_ge n m with h1 | h1
  ·obtain rfl:m=n+1:=om
   rfl
  ·rw[gk,ot h0 (by rw[iP];omega),kF h0 h n h1]
theorem xr {x:GNode} {v:List Bool}:∀j,cnt x v j<=j
 | 0=>Nat.le_refl _
 | j+1=>by have:=xr (x:=x) (v:=v) j;rw[cnt];split<;>omega
theorem zw {α:Type} [Inhabited α] {l:List α} {i:Nat} {x:α} {j:Nat} (h:i<l.length):at' (b8 l (i:Int) x) (j:Int)=if j=i then x else at' l (j:Int):=by
 simp only[at',b8,Int.toNat_natCast,List.getD_eq_getElem?_getD,List.getElem?_set]
 by_cases hij:i=j
 ·subst hij;simp[h]
 ·rw[if_neg hij,if_neg (λe=>hij e.symm)]
theorem xW {α:Type} {l:List α} {i:Int} {x:α}:(b8 l i x).length=l.length:=by simp[b8]
theorem nR {f:GFormula} {s:Nat} {Q:List Bool->Prop} (g:FG f) (hs:s<4294967296) (h:Q (gk f s f.Nodes.length)):gD f s Q:=by
 have v0:=g.v0
 have v24:=g.v24
 have n128:=g.n128
 refine⟨by unfold rng;omega,⟨by omega,by omega,by omega,by omega⟩,?_⟩
 refine eT (n:=f.Vars.toNat) (λi y=>y.1=(i:Int)/\y.2.length=f.Vars.toNat/\∀j,j<i->at' y.2 (j:Int)=inS s j) (λy=>y.1) 0 (λi y hy=>by rw[hy.1];omega) ⟨rfl,by simp[eN],λj hj=>absurd hj om⟩ ?_ ?_
 ·rintro i ⟨x,v⟩ next hi ⟨rfl,hl,hI⟩ hn
  dsimp only at hl hI
  refine condT (λhc=>⟨⟨by omega,by omega⟩,⟨by omega,by omega⟩,by unfold rng;omega,hn _ ⟨rfl,by rw[xW];exact hl,λj hj=>?_⟩⟩) (λhc=>absurd (show(i:Int)<(f.Vars.toNat:Int) by omega) hc)
  dsimp only
  rw[zw om]
  by_cases hji:j=i
  ·rw[if_pos hji,sj hs,hji]
  ·rw[if_neg hji];exact hI j om
 ·rintro⟨x,v⟩ next ⟨rfl,hl,hI⟩
  dsimp only at hl hI
  refine condT (λhc=>absurd hc om) (λ_=>?_)
  have hv:v=gk f s 0:=by
   refine xo (by rw[iP];omega) λj hj=>?_
   rw[hI j om]
   show _=at' ((List.range f.Vars.toNat).map (inS s)) (j:Int)
   simp[at',List.getD_eq_getElem?_getD,show j<f.Vars.toNat by omega]
  rw[hv]
  refine ik (n:=f.Nodes.length) (λi=>((i:Int),gk f s i)) (λy=>y.1) 0 (λi=>om) rfl ?_ ?_
  ·intro i next hi hn
   have N:=mU (g.node i hi)
   have hlen:=N.len
   refine condT (λhc=>⟨⟨by omega,by omega⟩,?_⟩) (λhc=>absurd (show(i:Int)<(f.Nodes.length:Int) by omega) hc)
   refine ik (n:=(at' f.Nodes (i:Int)).Args.length) (λj=>((cnt (at' f.Nodes (i:Int)) (gk f s i) j:Int),(j:Int))) (λy=>y.2) 0 (λj=>om) rfl ?_ ?_
   ·intro j next2 hj hn2
    have ha:=N.arg j hj
    have hcl:=xr (x:=at' f.Nodes (i:Int)) (v:=gk f s i) j
    refine condT (λhc=>⟨⟨by omega,by omega⟩,⟨ha.1,by rw[iP];omega⟩,bO (λhb=>⟨by unfold rng;omega,by unfold rng;omega,?_⟩) (λhb=>⟨by unfold rng;omega,?_⟩)⟩) (λhc=>absurd (show(j:Int)<((at' f.Nodes (i:Int)).Args.length:Int) by omega) hc)
    ·rw[cnt,if_pos hb] at hn2;exact hn2
    ·rw[cnt,if_neg (by rw[hb];simp)] at hn2;exact hn2
   ·intro next2
    refine condT (λhc=>absurd hc om) (λ_=>?_)
    refine⟨λy=>y=q9 (at' f.Nodes (i:Int)) (gk f s i),?_,?_⟩
    ·have k5:=N.k5
     have k0:=N.k0
     unfold q9 tD
     refine bS (λh0=>by rw[if_pos h0]) (λh0=>bS (λh1=>by rw[if_neg h0,if_pos h1]) (λh1=>bS (λh2=>by rw[if_neg h0,if_neg h1,if_pos h2]) (λh2=>bS (λh3=>by rw[if_neg h0,if_neg h1,if_neg h2,if_pos h3]) (λh3=>bS (λh4=>by rw[if_neg h0,if_neg h1,if_neg h2,if_neg h3,if_pos h4]) (λh4=>bS (λh5=>by rw[if_neg h0,if_neg h1,if_neg h2,if_neg h3,if_neg h4]) (λh5=>?_))))))
     exact absurd (show(at' f.Nodes (i:Int)).Kind=0\/(at' f.Nodes (i:Int)).Kind=1\/(at' f.Nodes (i:Int)).Kind=2\/(at' f.Nodes (i:Int)).Kind=3\/(at' f.Nodes (i:Int)).Kind=4\/(at' f.Nodes (i:Int)).Kind=5 by omega) (by
      rintro(hh | hh | hh | hh | hh | hh)
      ·exact h0 hh
      ·exact h1 hh
      ·exact h2 hh
      ·exact h3 hh
      ·exact h4 hh
      ·exact h5 hh)
    ·rintro _ rfl
     refine⟨?_,by unfold rng;omega,hn⟩
     rw[List.length_append,iP,List.length_singleton]
     omega
  ·intro next
   exact condT (λhc=>absurd hc om) (λ_=>h)
theorem yO {n:Nat} (h:n<=24):2^n<=16777216:=Nat.le_trans (Nat.pow_le_pow_right om h) (by decide)
def qH (f:GFormula) (s:Int):Int:=if oQ f≠0 then oQ f else if s<0\/(2^f.Vars.toNat:Int)<=s then 3 else 0
theorem oM {f:GFormula} {s:Int} {Q:Option Int->Prop} (ht:rng f.Top) (h:Q (m_ (qH f s))):il f s Q:=by
 unfold qH at h
 refine io ht ?_
 rw[kW]
 refine condT (λhc=>?_) (λhc=>?_)
 ·rw[if_pos hc] at h;exact h
 rw[if_neg hc] at h
 have g:=p6.1 (Decidable.not_not.1 hc)
 have v0:=g.v0
 have v24:=g.v24
 refine⟨λy=>y=decide (s<0\/(2^f.Vars.toNat:Int)<=s),?_,?_⟩
 ·refine condT (λhc=>(decide_eq_true (Or.inl hc)).symm) (λhc=>⟨⟨⟨by omega,by omega⟩,?_⟩,?_⟩)
  ·have:=yO (n:=f.Vars.toNat) om
   have e:(2^f.Vars.toNat:Int)=((2^f.Vars.toNat:Nat):Int):=by simp
   rw[Int.one_mul,e]
   generalize 2^f.Vars.toNat=z at this
   unfold rng;omega
  ·rw[Int.one_mul]
   exact decide_eq_decide.2 ⟨Or.inr,λhh=>hh.resolve_left hc⟩
 ·rintro _ rfl
  refine condT (λhc2=>?_) (λhc2=>?_)
  ·rw[if_pos hc2] at h;exact h
  ·rw[if_neg hc2] at h;exact h
theorem ky {f:GFormula} {s:Int} {Q:Bool->Option Int->Prop} (ht:rng f.Top) (h1:qH f s≠0->Q false (some (qH f s))) (h2:qH f s=0->Q (FV f s.toNat) none):fu f s Q:=by
 refine oM ht ?_
 rw[kW]
 refine condT (λhc=>?_) (λhc=>?_)
 ·rw[show m_ (qH f s)=some (qH f s) from if_neg hc];exact h1 hc
 ·have h3:=h2 (Decidable.not_not.1 hc)
  unfold qH at hc
  by_cases hm:oQ f≠0
  ·rw[if_pos hm] at hc;exact absurd hm hc
  rw[if_neg hm] at hc
  have g:=p6.1 (Decidable.not_not.1 hm)
  have v0:=g.v0
  have v24:=g.v24
  have hs:0<=s/\s<(2^f.Vars.toNat:Int):=by
   by_cases hh:s<0\/(2^f.Vars.toNat:Int)<=s
   ·rw[if_pos hh] at hc;exact absurd (by decide) hc
   ·rw[not_or] at hh;exact⟨by omega,by omega⟩
  obtain⟨k,rfl⟩:=Int.eq_ofNat_of_zero_le hs.1
  have hp:=yO (n:=f.Vars.toNat) om
  have hk:k<2^f.Vars.toNat:=by
   have:=hs.2
   exact_mod_cast this
  refine⟨_,nR g om rfl,⟨⟨g.top0,by rw[iP];have:=g.top;omega⟩,h3⟩⟩
end Go.Gg
namespace Go.Gg
theorem nu {f:GFormula} {s i:Nat} (v0:0<=f.Vars) (h:i<f.Nodes.length):at' (gk f s f.Nodes.length) (f.Vars+i)=q9 (at' f.Nodes (i:Int)) (gk f s i):=by
 rw[kF (m:=i+1) om om _ om,gk]
 have e:f.Vars+(i:Int)=((gk f s i).length:Int):=by rw[iP];omega
 rw[e,ut]
theorem mF {f:GFormula} {s:Nat} {a:Int} (h0:0<=a) (h:a<f.Vars) (n:Nat):at' (gk f s n) a=inS s a.toNat:=by
 rw[kF (m:=0) h0 om n om]
 obtain⟨k,rfl⟩:=Int.eq_ofNat_of_zero_le h0
 show at' ((List.range f.Vars.toNat).map (inS s)) (k:Int)=_
 simp[at',List.getD_eq_getElem?_getD,show k<f.Vars.toNat by omega]
end Go.Gg
namespace Go.Gg
theorem xB:(2:Nat)^62=4611686018427387904:=rfl
theorem gY {a:Nat} (h:a<2^62):(BitVec.ofInt 64 (a:Int)).toNat=a:=by
 rw[BitVec.toNat_ofInt]
 rw[xB] at h
 omega
theorem tU {a:Nat} (h:a<2^62):IntKind.i64.wrap (a:Int)=(a:Int):=by
 rw[xB] at h
 exact fT (by unfold rng;omega)
theorem yB {a b:Nat} (ha:a<2^62) (hb:b<2^62):bits .or .i64 (a:Int) (b:Int)=((a ||| b:Nat):Int):=by
 show IntKind.i64.wrap (((BitVec.ofInt 64 (a:Int)) ||| (BitVec.ofInt 64 (b:Int))).toNat:Int)=_
 rw[BitVec.toNat_or,gY ha,gY hb]
 exact tU (Nat.or_lt_two_pow ha hb)
theorem xA {a b:Nat} (ha:a<2^62) (hb:b<2^62):bits .and .i64 (a:Int) (b:Int)=((a &&& b:Nat):Int):=by
 show IntKind.i64.wrap (((BitVec.ofInt 64 (a:Int)) &&& (BitVec.ofInt 64 (b:Int))).toNat:Int)=_
 rw[BitVec.toNat_and,gY ha,gY hb]
 exact tU (Nat.and_lt_two_pow _ hb)
theorem gP {s i:Nat}:inS s i=s.testBit i:=by rw[inS,Nat.testBit_eq_decide_div_mod_eq]
def nW (p:Nat->Bool):Nat->Nat
 | 0=>0
 | n+1=>if p n=true then nW p n+2^n else nW p n
theorem lC {p:Nat->Bool}:∀n,nW p n<2^n
 | 0=>by simp[nW]
 | n+1=>by
  have:=lC (p:=p) n
  rw[nW,Nat.pow_succ]
  split<;>omega
theorem u6 {p:Nat->Bool} (n:Nat):nW p n ||| 2^n=nW p n+2^n:=by
 have:=Nat.two_pow_add_eq_or_of_lt (lC (p:=p) n) 1
 rw[Nat.mul_one] at this
 rw[Nat.or_comm,<-this,Nat.add_comm]
theorem tO {p:Nat->Bool}:∀n i,(nW p n).testBit i=(decide (i<n) && p i)
 | 0,i=>by simp[nW]
 | n+1,i=>by
  rw[nW]
  rcases Nat.lt_trichotomy i n with h | h | h
  ·have h1:(decide (i<n+1) && p i)=(decide (i<n) && p i):=by rw[decide_eq_true h,decide_eq_true om]
   rw[h1,<-tO n i]
   split
   ·rw[<-u6,Nat.testBit_or,Nat.testBit_two_pow_of_ne om,Bool.or_false]
   ·rfl
  ·subst h
   rw[decide_eq_true (Nat.lt_succ_self i),Bool.true_and]
   have h0:(nW p i).testBit i=false:=Nat.testBit_lt_two_pow (lC i)
   cases hp:p i with
   | true=>rw[if_pos rfl,<-u6,Nat.testBit_or,h0,Nat.testBit_two_pow_self,Bool.false_or]
   | false=>rw[if_neg (by simp)];exact h0
  ·rw[decide_eq_false om,Bool.false_and]
   refine Nat.testBit_lt_two_pow (Nat.lt_of_lt_of_le (m:=2^(n+1)) ?_ (Nat.pow_le_pow_right om om))
   have:=lC (p:=p) n
   rw[Nat.pow_succ]
   split<;>omega
theorem u7 {p:Nat->Bool} {n i:Nat} (h:i<n):inS (nW p n) i=p i:=by rw[gP,tO,decide_eq_true h,Bool.true_and]
theorem yN {n:Nat} (h:n<62):2^n<2^62:=Nat.pow_lt_pow_right om h
theorem nz {n:Nat} (h:n<62):((0:Int)<=(n:Int)/\(n:Int)<=64)/\rng (1*2^(Int.toNat (n:Int))):=by
 refine⟨by omega,?_⟩
 have e:(1*2^(Int.toNat (n:Int)):Int)=((2^n:Nat):Int):=by simp
 have h1:=yN h
 rw[xB] at h1
 rw[e]
 generalize 2^n=z at h1 ⊢
 unfold rng;omega
end Go.Gg
