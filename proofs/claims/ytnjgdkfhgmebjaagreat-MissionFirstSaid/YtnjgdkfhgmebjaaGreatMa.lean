/- What the functions on natural numbers compute, told of their formulas: part A. Conditions: none. -/
import Derived.Test.YtnjgdkfhgmebjaaGreatGc
import Derived.KernelRfl
import Derived.Test.YtnjgdkfhgmebjaaGreatWa
import Derived.Test.YtnjgdkfhgmebjaaGreatGd
namespace Go.Gg
theorem ta (l:List Int) (i:Int):at' l i=l.getD i.toNat 0:=rfl
theorem gz (l:List Int) (i:Nat):at' l (i:Int)=l.getD i 0:=rfl
theorem fV {α:Type} (l:List α) (i:Nat) (x:α):bw l (i:Int) x=l.set i x:=rfl
theorem uh {α:Type} (n:Nat) (x:α):bS (n:Int) x=List.replicate n x:=rfl
theorem Dy {α:Type} {f:(α->Prop)->Prop} {k:α->Prop} (h:f k):dA f k:=⟨k,h,λ_ h=>h⟩
theorem iF {α:Type} {e:α} {k:α->Prop} (h:k e):kN e k:=λ_ hv=>hv▸h
theorem condT {c:Prop} [Decidable c] {a b:Prop} (h1:c->a) (h2:¬c->b):an (decide c) a b:=⟨λh=>h1 (of_decide_eq_true h),λh=>h2 (of_decide_eq_false h)⟩
theorem bP {α:Type} [DecidableEq α] {x y:α} {a b:Prop} (h1:x=y->a) (h2:x≠y->b):an (x == y) a b:=⟨λh=>h1 (by simpa using h),λh=>h2 (by simpa using h)⟩
theorem c_ {α:Type} [DecidableEq α] {x y:α} {a b:Prop} (h1:x≠y->a) (h2:x=y->b):an (x != y) a b:=⟨λh=>h1 (by simpa using h),λh=>h2 (by simpa using h)⟩
theorem rB {b:Nat} {n:Nat} (hb:b<=200) (h:n<=1099511627776):kg b (n:Int) (n:Int):=⟨by omega,Int.le_refl _,by
 have:(b:Int)*(n:Int)<=200*1099511627776:=Int.mul_le_mul om om om om
 omega,by omega⟩
abbrev SM (l:List Int):Prop:=l.length<=1099511627776
theorem d4 {a:List Int} {i:Nat} {Q:Int->Prop} (hw:Words a) (h:Q (a.getD i 0)):c6 a (i:Int) Q:=by
 refine condT (λhc=>⟨⟨by omega,hc⟩,?_⟩) (λhc=>?_)
 ·rw[gz]
  have:=hw i
  rw[wrap_u64_id om om]
  exact h
 ·rw[pD om] at h
  exact h
theorem ct {a:List Int} {Q:List Int->Prop} (hw:Words a) (hl:SM a) (h:Q (lim (val a))):ca a Q:=by
 refine⟨λn=>∃j:Nat,n=j/\j<=a.length/\(∀i,j<=i->i<a.length->a.getD i 0=0)/\(0<j->a.getD (j-1) 0≠0),?_,?_⟩
 ·refine⟨λn=>∃j:Nat,n=j/\j<=a.length/\(∀i,j<=i->i<a.length->a.getD i 0=0),λn=>n.toNat,⟨a.length,rfl,Nat.le_refl _,λi h1 h2=>om⟩,?_⟩
  rintro n ⟨j,rfl,hj,hz⟩
  refine condT (λhc=>⟨by unfold rng;omega,⟨by omega,by omega⟩,bP (λhe=>⟨by unfold rng;omega,⟨j-1,by omega,by omega,λi h1 h2=>?_⟩,by dsimp only;omega⟩) (λhe=>⟨j,rfl,hj,hz,λ_=>?_⟩)⟩) (λhc=>⟨j,rfl,hj,hz,λh0=>om⟩)
  ·by_cases hi:i=j-1
   ·subst hi
    rw[ta] at he
    have:((j:Int)-1).toNat=j-1:=om
    rwa[this] at he
   ·exact hz i om h2
  ·rw[ta] at he
   have:((j:Int)-1).toNat=j-1:=om
   rwa[this] at he
 ·rintro n ⟨j,rfl,hj,hz,hlast⟩
  have e:=rF hw hj hz hlast
  refine bP (λhc=>?_) (λhc=>⟨⟨by omega,by omega,by omega⟩,?_,?_⟩)
  ·obtain rfl:j=0:=om
   rw[<-e] at h
   exact h
  ·simp[bH]
   have:min j a.length<=a.length:=om
   omega
  ·rw[<-e] at h
   simpa[bH] using h
theorem gr {a b:List Int} {Q:Int->Prop} (ha:Words a) (hb:Words b) (la:SM a) (lb:SM b) (h:Q (n8 (val a) (val b))):dQ a b Q:=by
 refine ct ha la (ct hb lb ?_)
 have b1:=dJ ha
 have b2:=dJ hb
 have w1:=aM (val a)
 have w2:=aM (val b)
 have v1:=cA w1
 have v2:=cA w2
 rw[bb] at v1 v2
 generalize hA:lim (val a)=A at *
 generalize hB:lim (val b)=B at *
 have hlt:A.length<B.length->val a<val b:=λh=>by
  rw[<-hA,<-hB] at h
  rcases Nat.lt_or_ge (val a) (val b) with h' | h'
  ·exact h'
  ·have:=cV h'
   omega
 have hgt:B.length<A.length->val b<val a:=λh=>by
  rw[<-hA,<-hB] at h
  rcases Nat.lt_or_ge (val b) (val a) with h' | h'
  ·exact h'
  ·have:=cV h'
   omega
 unfold SM at la lb
 refine c_ (λhc=>condT (λh1=>?_) (λh1=>?_)) (λhc=>⟨by unfold rng;omega,?_⟩)
 ·rw[n8,if_pos (hlt om)] at h;exact h
 ·have:=hgt om
  rw[n8,if_neg om,if_neg om] at h;exact h
 ·have hlen:A.length=B.length:=om
  refine⟨λi=>∃j:Nat,i=(j:Int)-1/\j<=A.length/\(∀k,j<=k->k<A.length->A.getD k 0=B.getD k 0),λi=>(i+1).toNat,⟨A.length,rfl,Nat.le_refl _,λk h1 h2=>om⟩,?_⟩
  rintro i ⟨j,rfl,hj,he⟩
  have hj1:((j:Int)-1).toNat=j-1:=om
  refine condT (λhc=>⟨⟨by omega,by omega⟩,⟨by omega,by omega⟩,?_⟩) (λhc=>?_)
  ·rw[ta,ta,hj1]
   refine condT (λh1=>?_) (λh1=>⟨⟨by omega,by omega⟩,⟨by omega,by omega⟩,condT (λh2=>?_) (λh2=>⟨by unfold rng;omega,⟨j-1,by omega,by omega,λk h3 h4=>?_⟩,by dsimp only;omega⟩)⟩)
   ·have:=A8 w1 w2 (i:=j-1) (n:=A.length) om h1 (λk h1 h2=>he k om h2)
    rw[<-hlen] at v2
    rw[n8,if_pos om] at h;exact h
   ·have:=A8 w2 w1 (i:=j-1) (n:=A.length) om h2 (λk h1 h2=>(he k om h2).symm)
    rw[<-hlen] at v2
    rw[n8,if_neg om,if_neg om] at h;exact h
   ·by_cases hk:k=j-1
    ·subst hk;omega
    ·exact he k om h4
  ·have:=kf (l:=A) (m:=B) A.length (λk hk=>he k om hk)
   rw[<-hlen] at v2
   rw[n8,if_neg om,if_pos om] at h;exact h
theorem wF {a b:List Int} {Q:List Int->Prop} (ha:Words a) (hb:Words b) (la:SM a) (lb:a.length<=1099511627775/\b.length<=1099511627775) (h:Q (lim (val a+val b))):jY a b Q:=by
 unfold SM at la
 obtain⟨n,hn0⟩:∃n,n=max a.length b.length+1:=⟨_,rfl⟩
 have hn:max (a.length:Int) (b.length:Int)+1=(n:Int):=om
 unfold jY
 rw[hn]
 refine⟨by unfold rng;omega,rB om om,?_⟩
 rw[Int.toNat_natCast]
 refine⟨λy=>∃i:Nat,y.2.1=i/\i<=n/\y.2.2.length=n/\Words y.2.2/\0<=y.1/\y.1<=1/\pv y.2.2 i+y.1*4294967296^i=pv a i+pv b i,λy=>n-y.2.1.toNat,⟨0,rfl,by omega,by simp[bS],Words.rep n,by omega,by omega,by simp[pv]⟩,?_⟩
 rintro⟨c,x,out⟩ ⟨i,hx,hi,hlen,hw,hc0,hc1,hpv⟩
 simp only at hx hi hlen hw hc0 hc1 hpv
 subst hx
 have hxl:=ha i
 have hxm:=hb i
 refine condT (λhlt=>?_) (λhge=>?_)
 ·refine d4 ha (d4 hb (iF ⟨⟨by omega,by omega⟩,by unfold rng;omega,?_,?_⟩))
  ·simp (disch:=omega) only[fV,wrap_u64_id,wrap_u32]
   refine⟨i+1,by omega,by omega,by simp[hlen],hw.set _ om om,by show 0<=_ / 4294967296;omega,by show _ / 4294967296<=1;omega,?_⟩
   show pv (out.set i _) (i+1)+_ / 4294967296*_=_
   rw[u0 om,Int.pow_succ,pv,pv,Int.add_assoc,mh]
   have:=Int.add_mul c (a.getD i 0+b.getD i 0) (4294967296^i)
   have:=Int.add_mul (a.getD i 0) (b.getD i 0) (4294967296^i)
   omega
  ·show n-((i:Int)+1).toNat<n-(i:Int).toNat
   omega
 ·obtain rfl:i=n:=om
  refine ct hw (by unfold SM;omega) ?_
  have e:val out=val a+val b:=by
   have a1:=eB hw (i:=i) om
   have a2:=eB ha (i:=i) om
   have a3:=eB hb (i:=i) om
   have b2:=oh (l:=a) (i-1) om
   have b3:=oh (l:=b) (i-1) om
   have b4:=oh (l:=a) i om
   have b5:=oh (l:=b) i om
   have c2:=(bB ha (i-1)).2
   have c3:=(bB hb (i-1)).2
   have hi1:i=i-1+1:=om
   have hc:=hpv
   rw[hi1,Int.pow_succ,<-hi1] at hc
   have:=vV hc om om om hc0 hc1 (fo _)
   subst this
   omega
  rw[e]
  exact h
theorem qc {a b:List Int} {Q:List Int->Option Int->Prop} (ha:Words a) (hb:Words b) (la:SM a) (lb:SM b) (h1:val a<val b->Q [] (some 3)) (h2:val b<=val a->Q (lim (val a-val b)) none):jW a b Q:=by
 refine gr ha hb la lb (condT (λhc=>h1 (kW.1 hc)) (λhc=>⟨rB om la,?_⟩))
 have hge:val b<=val a:=by have:=mt kW.2 hc;omega
 have h:=h2 hge
 clear h1 h2
 unfold SM at la lb
 rw[Int.toNat_natCast]
 refine⟨λy=>∃i:Nat,y.2.1=i/\i<=a.length/\y.2.2.length=a.length/\Words y.2.2/\0<=y.1/\y.1<=1/\pv y.2.2 i=pv a i-pv b i+y.1*4294967296^i,λy=>a.length-y.2.1.toNat,⟨0,rfl,by omega,by simp[bS],Words.rep _,by omega,by omega,by simp[pv]⟩,?_⟩
 rintro⟨c,x,out⟩ ⟨i,hx,hi,hlen,hw,hb0,hb1,hpv⟩
 simp only at hx hi hlen hw hb0 hb1 hpv
 subst hx
 have hxl:=ha i
 have hxm:=hb i
 obtain⟨q1,q2,q3⟩:=uA (a.getD i 0) (b.getD i 0) c hxl hxm ⟨hb0,hb1⟩
 refine condT (λhlt=>d4 ha (d4 hb (iF ⟨⟨by omega,by omega⟩,by unfold rng;omega,?_,by dsimp only;omega⟩))) (λhge=>?_)
 ·simp only[fV,wrap_u32]
  generalize IntKind.u64.wrap (IntKind.u64.wrap (a.getD i 0-b.getD i 0)-c)=d at *
  have e63:d / 2^Int.toNat 63=d / 9223372036854775808:=rfl
  refine⟨i+1,by omega,by omega,by simp[hlen],hw.set _ om om,by simpa only[e63] using q2,by simpa only[e63] using q3,?_⟩
  simp only[e63]
  rw[u0 om,Int.pow_succ,pv,pv,hpv]
  have e:d % 4294967296=a.getD i 0-b.getD i 0-c+4294967296*(d / 9223372036854775808):=om
  rw[e]
  generalize d / 9223372036854775808=d'
  have a1:=Int.add_mul (a.getD i 0-b.getD i 0-c) (4294967296*d') (4294967296^i)
  have a2:=Int.sub_mul (a.getD i 0-b.getD i 0) c (4294967296^i)
  have a3:=Int.sub_mul (a.getD i 0) (b.getD i 0) (4294967296^i)
  have a4:4294967296*d'*4294967296^i=d'*(4294967296^i*4294967296):=by rw[Int.mul_comm 4294967296 d',Int.mul_assoc,Int.mul_comm 4294967296]
  omega
 ·obtain rfl:i=a.length:=om
  refine ct hw (by unfold SM;omega) ?_
  have e:val out=val a-val b:=by
   have a1:=eB hw (i:=a.length) om
   have a2:=cA ha
   have a3:=bB ha a.length
   have a4:=bB hw a.length
   have a5:=bB hb a.length
   have a6:=cA hb
   rcases Nat.lt_or_ge a.length b.length with h | h
   ·have hm1:=pw hb (Nat.le_of_lt h)
    rcases (by omega:c=0\/c=1) with rfl | rfl
    ·
     have hz:pv b b.length=pv b a.length:=by
      refine ri hb (Nat.le_of_lt h) ?_
      omega
     omega
    ·omega
   ·have hm1:=eB hb h
    rcases (by omega:c=0\/c=1) with rfl | rfl<;>omega
  rw[e]
  exact h
theorem iD {a b:List Int} {Q:List Int->Prop} (ha:Words a) (hb:Words b) (la:a.length+b.length<=1099511627776) (h:Q (lim (val a*val b))):eM a b Q:=by
 obtain⟨N,hN⟩:∃N,N=a.length+b.length:=⟨_,rfl⟩
 have hNi:(a.length:Int)+(b.length:Int)=(N:Int):=om
 unfold eM
 rw[hNi]
 refine⟨by unfold rng;omega,rB om om,?_⟩
 refine⟨λy=>∃i:Nat,y.1=i/\i<=a.length/\y.2.length=N/\Words y.2/\(∀p,i+b.length<=p->y.2.getD p 0=0)/\pv y.2 N=pv a i*pv b b.length,λy=>a.length-y.1.toNat,
  ⟨0,rfl,by omega,by simp[bS],Words.rep _,λp hp=>by rw[uh,List.getD_eq_getElem?_getD,List.getElem?_replicate];split<;>rfl,by rw[uh,qu];simp[pv]⟩,?_⟩
 rintro⟨x,out⟩ ⟨i,hx,hi,hlen,hw,hz,hpv⟩
 simp only at hx hi hlen hw hz hpv
 subst hx
 have hxi:=ha i
 refine condT (λhlt=>⟨⟨by omega,hlt⟩,?_⟩) (λhge=>?_)
 ·refine⟨λy=>∃k:Nat,y.2.1=k/\k<=b.length/\y.2.2.length=N/\Words y.2.2/\(∀p,i+b.length<=p->y.2.2.getD p 0=0)/\0<=y.1/\y.1<4294967296/\
    pv y.2.2 N+y.1*4294967296^(i+k)=pv a i*pv b b.length+a.getD i 0*4294967296^i*pv b k,λy=>b.length-y.2.1.toNat,
   ⟨0,rfl,by omega,hlen,hw,hz,by omega,by omega,by simp[pv,hpv]⟩,?_⟩
  clear hpv hz hw hlen h
  rintro⟨c,x1,out2⟩ ⟨k,hx,hk,hlen,hw,hz,hc0,hc1,hpv⟩
  simp only at hx hk hlen hw hz hc0 hc1 hpv
  subst hx
  have hy:=hb k
  have ho:=hw (i+k)
  obtain⟨q1,q2⟩:=zk hxi hy
  have eik:(i:Int)+(k:Int)=((i+k:Nat):Int):=om
  have eib:(i:Int)+(b.length:Int)=((i+b.length:Nat):Int):=om
  refine condT (λhlt2=>⟨⟨by omega,hlt2⟩,by unfold rng;omega,⟨by omega,by omega⟩,iF ⟨by unfold rng;omega,⟨by omega,by omega⟩,by unfold rng;omega,?_,by dsimp only;omega⟩⟩) (λhge2=>⟨by unfold rng;omega,⟨by omega,by omega⟩,by unfold rng;omega,?_,by dsimp only;omega⟩)
  ·simp only[eik,gz,fV]
   simp (disch:=omega) only[wrap_u64_id,wrap_u32]
   have e32:∀z:Int,z / 2^Int.toNat 32=z / 4294967296:=λ_=>rfl
   simp only[e32]
   generalize hv:c+(a.getD i 0*b.getD k 0+out2.getD (i+k) 0)=v
   refine⟨k+1,by omega,by omega,by simp[hlen],hw.set _ om om,λp hp=>?_,by show 0<=v / 4294967296;omega,by show v / 4294967296<4294967296;omega,?_⟩
   ·show(out2.set (i+k) _).getD p 0=0
    rw[cF om];exact hz p hp
   ·show pv (out2.set (i+k) (v % 4294967296)) N+v / 4294967296*4294967296^(i+(k+1))=_
    rw[gO om N om,pv,<-Nat.add_assoc,Int.pow_succ,Int.mul_add,<-Int.add_assoc,<-hpv]
    have s1:=mh v (4294967296^(i+k))
    have s2:=Int.sub_mul (v % 4294967296) (out2.getD (i+k) 0) (4294967296^(i+k))
    have s3:v*4294967296^(i+k)=c*4294967296^(i+k)+(a.getD i 0*4294967296^i*(b.getD k 0*4294967296^k)+out2.getD (i+k) 0*4294967296^(i+k)):=by
     rw[<-hv,Int.add_mul,Int.add_mul,Int.pow_add]
     congr 2
     rw[Int.mul_assoc,Int.mul_assoc,Int.mul_left_comm (b.getD k 0)]
    omega
  ·obtain rfl:k=b.length:=om
   simp only[eib,fV,wrap_u32]
   have hcm:c % 4294967296=c:=om
   rw[hcm]
   refine⟨i+1,by omega,by omega,by simp[hlen],hw.set _ om om,λp hp=>?_,?_⟩
   ·show(out2.set (i+b.length) c).getD p 0=0
    rw[cF om];exact hz p om
   ·show pv (out2.set (i+b.length) c) N=pv a (i+1)*_
    rw[gO om N om,hz (i+b.length) om,pv,Int.add_mul,Int.sub_zero]
    exact hpv
 ·obtain rfl:i=a.length:=om
  refine ct hw (by unfold SM;omega) ?_
  have e:val out=val a*val b:=by
   have a1:=eB hw (i:=N) om
   have a2:=cA ha
   have a3:=cA hb
   have:((val a*val b:Nat):Int)=(val a:Int)*(val b:Int):=by simp
   have:(val out:Int)=((val a*val b:Nat):Int):=by rw[this,a1,hpv,a2,a3]
   omega
  rw[e]
  exact h
end Go.Gg
namespace Go.Gg
theorem Di {x y i:Nat} (hx:x<2^i) (hy:2^i ∣ y):y ||| x=y+x:=by
 obtain⟨z,rfl⟩:=hy
 rw[Nat.mul_comm,<-Nat.shiftLeft_eq,Nat.shiftLeft_add_eq_or_of_lt hx]
theorem vp {x y:Int} (i:Nat) (hx:0<=x) (hxi:x<2^i) (hy:0<=y) (hyi:y % 2^i=0) (hs:y+x<18446744073709551616):bits .or .u64 y x=y+x:=by
 obtain⟨m,rfl⟩:=Int.eq_ofNat_of_zero_le hx
 obtain⟨n,rfl⟩:=Int.eq_ofNat_of_zero_le hy
 have h1:m<2^i:=by exact_mod_cast hxi
 have h2:2^i ∣ n:=by
  have:(n:Int) % ((2^i:Nat):Int)=0:=by simpa using hyi
  exact Nat.dvd_of_mod_eq_zero om
 have h3:=Di h1 h2
 show IntKind.u64.wrap (((BitVec.ofInt 64 (n:Int)) ||| (BitVec.ofInt 64 (m:Int))).toNat:Int)=_
 rw[oF,BitVec.toNat_or,BitVec.toNat_ofInt,BitVec.toNat_ofInt]
 have e1:((n:Int) % ((2^64:Nat):Int)).toNat=n:=om
 have e2:((m:Int) % ((2^64:Nat):Int)).toNat=m:=om
 rw[e1,e2,h3]
 omega
theorem xJ {x y:Int} (i:Nat) (hx:0<=x) (hxi:x<2^i) (hy:0<=y) (hyi:y % 2^i=0) (hs:y+x<18446744073709551616):bits .or .u64 x y=y+x:=by
 rw[<-vp i hx hxi hy hyi hs]
 show IntKind.u64.wrap (((BitVec.ofInt 64 x) ||| (BitVec.ofInt 64 y)).toNat:Int)=IntKind.u64.wrap (((BitVec.ofInt 64 y) ||| (BitVec.ofInt 64 x)).toNat:Int)
 rw[BitVec.or_comm]
theorem EE {x y:Int} (i:Nat) (hx:0<=x) (hxi:x<2^i) (hy:0<=y) (hyi:y % 2^i=0) (hs:y+x<4294967296):bits .or .u32 x y=y+x:=by
 obtain⟨m,rfl⟩:=Int.eq_ofNat_of_zero_le hx
 obtain⟨n,rfl⟩:=Int.eq_ofNat_of_zero_le hy
 have h1:m<2^i:=by exact_mod_cast hxi
 have h2:2^i ∣ n:=by
  have:(n:Int) % ((2^i:Nat):Int)=0:=by simpa using hyi
  exact Nat.dvd_of_mod_eq_zero om
 have h3:=Di h1 h2
 show IntKind.u32.wrap (((BitVec.ofInt 32 (m:Int)) ||| (BitVec.ofInt 32 (n:Int))).toNat:Int)=_
 rw[wrap_u32,BitVec.toNat_or,BitVec.toNat_ofInt,BitVec.toNat_ofInt]
 have e1:((n:Int) % ((2^32:Nat):Int)).toNat=n:=om
 have e2:((m:Int) % ((2^32:Nat):Int)).toNat=m:=om
 rw[e1,e2,Nat.or_comm,h3]
 omega
def cd (n:Nat):Nat:=if n=0 then 0 else n.log2+1
theorem xj:cd 0=0:=rfl
theorem pH {n:Nat}:n<2^cd n:=by
 unfold cd
 split
 ·omega
 ·exact Nat.lt_log2_self
theorem n_ {n:Nat} (h:n≠0):2^(cd n-1)<=n:=by
 unfold cd
 rw[if_neg h]
 exact Nat.log2_self_le h
theorem s9 {n k:Nat} (h:n<2^k) (h':k≠0->2^(k-1)<=n):cd n=k:=by
 by_cases h0:n=0
 ·subst h0
  cases k with
  | zero=>rfl
  | succ k=>have:=h' om;have:0<2^k:=Nat.pow_pos om;simp at *
 ·have a:=pH (n:=n)
  have b:=n_ h0
  have hk:k≠0:=by rintro rfl;simp at h;omega
  have c:=h' hk
  have hb:cd n≠0:=by unfold cd;rw[if_neg h0];omega
  rcases Nat.lt_trichotomy (cd n) k with hlt | he | hgt
  ·have:2^cd n<=2^(k-1):=Nat.pow_le_pow_right om om
   omega
  ·exact he
  ·have:2^k<=2^(cd n-1):=Nat.pow_le_pow_right om om
   omega
theorem v5 {n k:Nat} (h:2^k<=n):cd n=cd (n / 2^k)+k:=by
 have hp:0<2^k:=Nat.pow_pos om
 have hq:n / 2^k≠0:=by have:=Nat.div_pos h hp;omega
 have a:=pH (n:=n / 2^k)
 have b:=n_ hq
 have hb:cd (n / 2^k)≠0:=by unfold cd;rw[if_neg hq];omega
 refine s9 ?_ (λ_=>?_)
 ·rw[Nat.pow_add]
  rw[Nat.div_lt_iff_lt_mul hp] at a
  exact a
 ·have e:cd (n / 2^k)+k-1=(cd (n / 2^k)-1)+k:=om
  rw[e,Nat.pow_add]
  rw[Nat.le_div_iff_mul_le hp] at b
  exact b
theorem Em:(List.range 256).all (λk=>qG hY k == (cd k:Int))=true:=by kernel_rfl
theorem Gd {k:Nat} (h:k<256):qG hY k=(cd k:Int):=by
 have:=List.all_eq_true.1 Em k (by simpa using h)
 simpa using this
theorem CT:hY.size=256:=by kernel_rfl
theorem Bk {x:Nat} {Q:Int->Prop} (hx:x<4294967296) (h:Q (cd x)):gE (x:Int) Q:=by
 refine⟨λy=>∃z k:Nat,y=((z:Int),(k:Int))/\z<65536/\k<=16/\cd x=cd z+k,?_,?_⟩
 ·refine condT (λhc=>⟨x / 65536,16,?_,by omega,by omega,?_⟩) (λhc=>⟨x,0,rfl,by omega,by omega,rfl⟩)
  ·show((x:Int) / 65536,(16:Int))=_
   rw[Prod.mk.injEq];exact⟨by omega,rfl⟩
  ·exact v5 (k:=16) om
 ·rintro _ ⟨z,k,rfl,hz,hk,hb⟩
  refine⟨λy=>∃z k:Nat,y=((z:Int),(k:Int))/\z<256/\k<=24/\cd x=cd z+k,?_,?_⟩
  ·refine condT (λhc=>⟨by unfold rng;omega,z / 256,k+8,?_,by omega,by omega,?_⟩) (λhc=>⟨z,k,rfl,by omega,by omega,hb⟩)
   ·show((z:Int) / 256,(k:Int)+8)=_
    rw[Prod.mk.injEq];exact⟨by omega,by omega⟩
   ·have h8:=v5 (n:=z) (k:=8) om
    have e:z / 2^8=z / 256:=rfl
    rw[e] at h8
    omega
  ·rintro _ ⟨z,k,rfl,hz,hk,hb⟩
   show(_/\_)
   have hw:IntKind.u8.wrap (z:Int)=z:=by rw[wrap_u8];omega
   have hz':(cd z:Int)<=8:=by
    have:cd z<=8:=by
     by_cases h0:z=0
     ·subst h0;simp[cd]
     ·have:=n_ h0
      rcases Nat.lt_or_ge 8 (cd z) with h8 | h8
      ·have:2^8<=2^(cd z-1):=Nat.pow_le_pow_right om om
       omega
      ·exact h8
    omega
   rw[hw,CT]
   have e:(Int.toNat (z:Int))=z:=om
   rw[e,Gd hz,jf (by unfold rng;omega)]
   refine⟨⟨by omega,by omega⟩,by unfold rng;omega,iF ?_⟩
   have:(k:Int)+(cd z:Int)=((cd x:Nat):Int):=om
   rw[this]
   exact h
theorem pI {x:Nat} (hx:x<4294967296):cd x<=32:=by
 by_cases h0:x=0
 ·subst h0;simp[cd]
 ·have:=n_ h0
  rcases Nat.lt_or_ge 32 (cd x) with h8 | h8
  ·have:2^32<=2^(cd x-1):=Nat.pow_le_pow_right om om
   omega
  ·exact h8
theorem GF {x:Nat} {Q:Int->Prop} (hx:x<4294967296) (h:Q ((32-cd x:Nat):Int)):eX (x:Int) Q:=by
 refine Bk hx ?_
 have h1:=pI hx
 refine⟨by unfold rng;omega,?_⟩
 have:(32:Int)-(cd x:Int)=((32-cd x:Nat):Int):=om
 rw[this]
 exact h
end Go.Gg
namespace Go.Gg
theorem po {n:Nat} (h:n<=32):(2:Int)^n*2^(32-n)=4294967296:=by
 rw[<-Int.pow_add]
 have:n+(32-n)=32:=om
 rw[this];rfl
theorem fI (n:Nat):(0:Int)<2^n:=Int.pow_pos om
theorem oY {a:List Int} {n:Nat} {Q:List Int->Prop} (ha:Words a) (la:a.length<=1099511627775) (hn:n<=32) (h:∀out,Words out->out.length=a.length+1->val out=val a*2^n->Q out):eW a (n:Int) Q:=by
 have hL:(a.length:Int)+1=((a.length+1:Nat):Int):=om
 unfold eW
 rw[hL]
 have hs:=po hn
 have hpp:=fI n
 have hqp:=fI (32-n)
 generalize hp:(2:Int)^n=p at *
 generalize (2:Int)^(32-n)=q at *
 have hple:p<=4294967296:=by
  have:p*1<=p*q:=Int.mul_le_mul_of_nonneg_left om om
  omega
 have hdvd:p ∣ 4294967296:=⟨q,hs.symm⟩
 refine⟨by unfold rng;omega,rB om om,λy=>∃i:Nat,y.1=i/\i<=a.length/\y.2.length=a.length+1/\Words y.2/\(∀k,i<k->y.2.getD k 0=0)/\y.2.getD i 0<p/\pv y.2 (i+1)=pv a i*p,λy=>a.length-y.1.toNat,
  ⟨0,rfl,by omega,by simp[bS],Words.rep _,λk hk=>?_,?_,?_⟩,?_⟩
 ·show(List.replicate (a.length+1) (0:Int)).getD k 0=0
  rw[List.getD_eq_getElem?_getD,List.getElem?_replicate];split<;>rfl
 ·show(List.replicate (a.length+1) (0:Int)).getD 0 0<p
  simp;omega
 ·show pv (List.replicate (a.length+1) (0:Int)) 1=_
  rw[qu];simp[pv]
 rintro⟨x,out⟩ ⟨i,hx,hi,hlen,hw,hz,hlow,hpv⟩
 simp only at hx hi hlen hw hz hlow hpv
 subst hx
 have hxi:=ha i
 have hoi:=hw i
 refine condT (λhlt=>⟨⟨by omega,hlt⟩,⟨by omega,by omega⟩,?_⟩) (λhge=>?_)
 ·rw[gz,Int.toNat_natCast,hp]
  have hy0:0<=a.getD i 0*p:=Int.mul_nonneg hxi.1 om
  have hy1:a.getD i 0*p<4294967296*p:=Int.mul_lt_mul_of_pos_right hxi.2 hpp
  have hy2:4294967296*p<=4294967296*4294967296:=Int.mul_le_mul_of_nonneg_left hple om
  rw[wrap_u64_id hxi.1 om,wrap_u64_id hy0 om]
  refine iF ?_
  have hdy:p ∣ a.getD i 0*p:=⟨_,Int.mul_comm _ _⟩
  have hhi:a.getD i 0*p / 4294967296<p:=by
   rw[Int.ediv_lt_iff_lt_mul om]
   rw[Int.mul_comm p];exact hy1
  generalize hv:a.getD i 0*p=y at *
  refine⟨⟨by omega,by omega⟩,⟨by omega,by omega⟩,by unfold rng;omega,⟨by omega,by omega⟩,by unfold rng;omega,?_,by dsimp only;omega⟩
  have e1:(i:Int)+1=((i+1:Nat):Int):=om
  have e32:y / 2^Int.toNat 32=y / 4294967296:=rfl
  have hm:(y % 4294967296) % p=0:=by rw[Int.emod_emod_of_dvd _ hdvd];exact Int.emod_eq_zero_of_dvd hdy
  have hh0:0<=y / 4294967296:=om
  have hor:bits .or .u32 (out.getD i 0) (y % 4294967296)=y % 4294967296+out.getD i 0:=by
   refine EE n hoi.1 (by rw[hp];exact hlow) om (by rw[hp];exact hm) ?_
   obtain⟨z,hz'⟩:=Int.dvd_of_emod_eq_zero hm
   have:z<q:=by
    rcases Int.lt_or_le z q with h1 | h1
    ·exact h1
    ·have:p*q<=p*z:=Int.mul_le_mul_of_nonneg_left h1 om
     omega
   have:p*z<=p*(q-1):=Int.mul_le_mul_of_nonneg_left om om
   rw[Int.mul_sub,hs] at this
   omega
  rw[e1,gz,fV,fV,e32,wrap_u32,wrap_u32,hor]
  have hlo:y % 4294967296+out.getD i 0<4294967296:=by
   obtain⟨z,hz'⟩:=Int.dvd_of_emod_eq_zero hm
   have:z<q:=by
    rcases Int.lt_or_le z q with h1 | h1
    ·exact h1
    ·have:p*q<=p*z:=Int.mul_le_mul_of_nonneg_left h1 om
     omega
   have:p*z<=p*(q-1):=Int.mul_le_mul_of_nonneg_left om om
   rw[Int.mul_sub,hs] at this
   omega
  have hmod:y / 4294967296 % 4294967296=y / 4294967296:=om
  rw[hmod]
  refine⟨i+1,rfl,by omega,by simp[hlen],(hw.set _ om om).set _ hh0 om,λk hk=>?_,?_,?_⟩
  ·show((out.set i _).set (i+1) _).getD k 0=0
   rw[cF om,cF om]
   exact hz k om
  ·show((out.set i _).set (i+1) _).getD (i+1) 0<p
   rw[j4 (by simp;omega)]
   exact hhi
  ·show pv ((out.set i _).set (i+1) _) (i+1+1)=_
   rw[u0 (by simp;omega),u0 om,pv,Int.pow_succ]
   rw[pv] at hpv
   have s4:=Int.add_mul (pv a i) (a.getD i 0*4294967296^i) p
   have s1:=mh y (4294967296^i)
   have s2:=Int.add_mul (y % 4294967296) (out.getD i 0) (4294967296^i)
   have s3:a.getD i 0*4294967296^i*p=y*4294967296^i:=by rw[<-hv,Int.mul_assoc,Int.mul_comm _ p,<-Int.mul_assoc]
   omega
 ·obtain rfl:i=a.length:=om
  refine h out hw hlen ?_
  have a1:=cA hw
  have a2:=cA ha
  rw[hlen,hpv,<-a2] at a1
  have:((val a*2^n:Nat):Int)=(val a:Int)*p:=by rw[<-hp];simp
  have:(val out:Int)=((val a*2^n:Nat):Int):=by rw[this];exact a1
  omega
theorem t8 {a:List Int} {n:Nat} {Q:List Int->Prop} (ha:Words a) (la:SM a) (hn:n<=32) (h:∀out,Words out->out.length=a.length->val out=val a / 2^n->Q out):iM a (n:Int) Q:=by
 unfold SM at la
 unfold iM
 have hs:=po hn
 have hpp:=fI n
 have hqp:=fI (32-n)
 generalize hp:(2:Int)^n=p at *
 generalize (2:Int)^(32-n)=q at *
 have hdvd:p ∣ 4294967296:=⟨q,hs.symm⟩
 refine⟨rB om la,λy=>∃i:Nat,y.1=i/\i<=a.length/\y.2.length=a.length/\Words y.2/\pv y.2 i*p=pv a i-a.getD 0 0 % p+(a.getD i 0 % p)*4294967296^i,λy=>a.length-y.1.toNat,
  ⟨0,rfl,by omega,by simp[bS],Words.rep _,by simp[pv];omega⟩,?_⟩
 rintro⟨x,out⟩ ⟨i,hx,hi,hlen,hw,hpv⟩
 simp only at hx hi hlen hw hpv
 subst hx
 have h0:=ha i
 have h1:=ha (i+1)
 have e1:(i:Int)+1=((i+1:Nat):Int):=om
 refine condT (λhlt=>d4 ha ⟨by unfold rng;omega,?_⟩) (λhge=>?_)
 ·rw[e1]
  refine d4 ha ⟨⟨by omega,by omega⟩,⟨by omega,by omega⟩,by unfold rng;omega,?_,by dsimp only;omega⟩
  have e32:(2:Int)^Int.toNat 32=4294967296:=rfl
  rw[e32,Int.toNat_natCast,hp,wrap_u64_id om om,xJ 32 h0.1 h0.2 om (by show _ % 4294967296=0;omega) om,fV,wrap_u32]
  generalize ha0:a.getD i 0=x0 at *
  generalize ha1:a.getD (i+1) 0=x1 at *
  have hx0:0<=x0 / p:=Int.ediv_nonneg h0.1 om
  have hx0':x0 / p<q:=by rw[Int.ediv_lt_iff_lt_mul hpp,Int.mul_comm,hs];exact h0.2
  have hm0:0<=x1 % p:=Int.emod_nonneg _ om
  have hm1:x1 % p<p:=Int.emod_lt_of_pos _ hpp
  have hdv:(x1*4294967296+x0) / p=x1*q+x0 / p:=by
   rw[<-hs,Int.mul_left_comm,Int.add_comm,Int.add_mul_ediv_left _ _ om,Int.add_comm]
  have hk:(x1*4294967296+x0) / p % 4294967296=(x1 % p)*q+x0 / p:=by
   have d1:x1=p*(x1 / p)+x1 % p:=(Int.mul_ediv_add_emod x1 p).symm
   have d2:x1*q+x0 / p=(x1 % p)*q+x0 / p+4294967296*(x1 / p):=by
    have:x1*q=(p*(x1 / p)+x1 % p)*q:=by rw[<-d1]
    rw[this,Int.add_mul,Int.mul_right_comm,hs];omega
   rw[hdv,d2,Int.add_mul_emod_self_left]
   refine Int.emod_eq_of_lt ?_ ?_
   ·have:=Int.mul_nonneg hm0 (Int.le_of_lt hqp);omega
   ·have:(x1 % p)*q<=(p-1)*q:=Int.mul_le_mul_of_nonneg_right om om
    rw[Int.sub_mul,hs] at this;omega
  rw[hk]
  have hq0:=Int.mul_nonneg hm0 (Int.le_of_lt hqp)
  have hq1:(x1 % p)*q<=(p-1)*q:=Int.mul_le_mul_of_nonneg_right om om
  rw[Int.sub_mul,hs] at hq1
  refine⟨i+1,rfl,by omega,by simp[hlen],hw.set _ om om,?_⟩
  show pv (out.set i (x1 % p*q+x0 / p)) (i+1)*p=pv a (i+1)-_+_
  rw[u0 om,pv,Int.add_mul,hpv,ha0,ha1,Int.pow_succ]
  have d0:x0=p*(x0 / p)+x0 % p:=(Int.mul_ediv_add_emod x0 p).symm
  have s1:(x1 % p*q+x0 / p)*4294967296^i*p=x1 % p*(4294967296^i*4294967296)+(p*(x0 / p))*4294967296^i:=by
   rw[Int.add_mul,Int.add_mul]
   congr 1
   ·rw[<-hs,Int.mul_assoc,Int.mul_assoc,Int.mul_left_comm q,Int.mul_comm q p]
   ·rw[Int.mul_right_comm,Int.mul_comm (x0 / p)]
  have s2:x0*4294967296^i=(p*(x0 / p))*4294967296^i+x0 % p*4294967296^i:=by
   rw[<-Int.add_mul,<-d0]
  omega
 ·obtain rfl:i=a.length:=om
  refine h out hw hlen ?_
  have a1:=cA hw
  have a2:=cA ha
  rw[hlen] at a1
  rw[pD (Nat.le_refl a.length),Int.zero_emod,Int.zero_mul,<-a2,<-a1] at hpv
  have hr0:0<=a.getD 0 0 % p:=Int.emod_nonneg _ om
  have hr1:a.getD 0 0 % p<p:=Int.emod_lt_of_pos _ hpp
  have e:(val a:Int) / p=val out:=by
   have:(val a:Int)=p*val out+a.getD 0 0 % p:=by rw[Int.mul_comm];omega
   rw[this,Int.add_comm,Int.add_mul_ediv_left _ _ om,Int.ediv_eq_zero_of_lt hr0 hr1];omega
  have e2:((val a / 2^n:Nat):Int)=(val a:Int) / p:=by rw[<-hp];simp
  omega
theorem t7 {a:List Int} {b:Int} {Q:List Int->Int->Prop} (ha:Words a) (la:SM a) (hb0:0<b) (hb1:b<4294967296) (h:Q (lim (val a / b.toNat)) ((val a % b.toNat:Nat):Int)):iL a b Q:=by
 unfold SM at la
 unfold iL
 rw[wrap_u64_id om om]
 refine⟨rB om la,by unfold rng;omega,λy=>∃j:Nat,y.2.1=(j:Int)-1/\j<=a.length/\y.2.2.length=a.length/\Words y.2.2/\(∀k,k<j->y.2.2.getD k 0=0)/\0<=y.1/\y.1<b/\pv y.2.2 a.length*b+y.1*4294967296^j=pv a a.length-pv a j,
  λy=>(y.2.1+1).toNat,⟨a.length,rfl,by omega,by simp[bS],Words.rep _,λk hk=>?_,by omega,hb0,?_⟩,?_⟩
 ·show(List.replicate a.length (0:Int)).getD k 0=0
  rw[List.getD_eq_getElem?_getD,List.getElem?_replicate];split<;>rfl
 ·show pv (List.replicate a.length (0:Int)) a.length*b+0*_=_
  rw[qu];simp
 rintro⟨r,x,out⟩ ⟨j,hx,hj,hlen,hw,hz,hr0,hr1,hpv⟩
 simp only at hx hj hlen hw hz hr0 hr1 hpv
 subst hx
 have hj1:((j:Int)-1).toNat=j-1:=om
 refine condT (λhc=>⟨⟨by omega,by omega⟩,?_⟩) (λhc=>?_)
 ·obtain⟨i,rfl⟩:∃i,j=i+1:=⟨j-1,by omega⟩
  have ei:((i+1:Nat):Int)-1=(i:Int):=om
  have h0:=ha i
  have e32:(2:Int)^Int.toNat 32=4294967296:=rfl
  rw[ei,gz,e32,wrap_u64_id om om,wrap_u64_id om om,vp 32 h0.1 h0.2 om (by show _ % 4294967296=0;omega) om]
  refine iF ⟨by omega,⟨by omega,by omega⟩,by omega,by unfold rng;omega,?_,by dsimp only;omega⟩
  generalize hv:r*4294967296+a.getD i 0=v
  have hv0:0<=v:=om
  rw[Int.tdiv_eq_ediv_of_nonneg hv0,Int.tmod_eq_emod_of_nonneg hv0,fV]
  have hq0:0<=v / b:=Int.ediv_nonneg hv0 om
  have hq1:v / b<4294967296:=by
   rw[Int.ediv_lt_iff_lt_mul hb0,<-hv]
   have:r*4294967296<=(b-1)*4294967296:=Int.mul_le_mul_of_nonneg_right om om
   omega
  rw[wrap_u64_id hq0 om,wrap_u32]
  have hqm:v / b % 4294967296=v / b:=om
  rw[hqm]
  refine⟨i,rfl,by omega,by simp[hlen],hw.set _ hq0 hq1,λk hk=>?_,Int.emod_nonneg _ om,Int.emod_lt_of_pos _ hb0,?_⟩
  ·show(out.set i _).getD k 0=0
   rw[cF om];exact hz k om
  ·show pv (out.set i (v / b)) a.length*b+v % b*_=_
   rw[gO om a.length om,hz i om,Int.sub_zero,Int.add_mul]
   rw[pv,Int.pow_succ] at hpv
   have d0:v=b*(v / b)+v % b:=(Int.mul_ediv_add_emod v b).symm
   have s1:v / b*4294967296^i*b+v % b*4294967296^i=v*4294967296^i:=by
    rw[Int.mul_right_comm,<-Int.add_mul,Int.mul_comm (v / b),<-d0]
   have s2:v*4294967296^i=r*(4294967296^i*4294967296)+a.getD i 0*4294967296^i:=by
    rw[<-hv,Int.add_mul,Int.mul_assoc,Int.mul_comm 4294967296]
   omega
 ·obtain rfl:j=0:=om
  refine ct hw (by unfold SM;omega) ?_
  have a1:=cA hw
  have a2:=cA ha
  rw[hlen] at a1
  simp only[pv,Int.pow_zero,Int.mul_one,Int.sub_zero] at hpv
  rw[<-a1,<-a2] at hpv
  obtain⟨c,rfl⟩:∃c:Nat,b=c:=⟨b.toNat,by omega⟩
  rw[Int.toNat_natCast] at h
  have hq:val a / c=val out:=by
   have:val a=c*val out+r.toNat:=by
    have:((val a:Nat):Int)=((c*val out+r.toNat:Nat):Int):=by
     rw[Int.natCast_add,Int.natCast_mul,Int.mul_comm];omega
    omega
   rw[this,Nat.add_comm,Nat.add_mul_div_left _ _ om,Nat.div_eq_of_lt om];omega
  have hm:val a % c=r.toNat:=by
   have:val a=c*val out+r.toNat:=by
    have:((val a:Nat):Int)=((c*val out+r.toNat:Nat):Int):=by
     rw[Int.natCast_add,Int.natCast_mul,Int.mul_comm];omega
    omega
   rw[this,Nat.add_comm,Nat.add_mul_mod_self_left,Nat.mod_eq_of_lt om]
  rw[hq,hm] at h
  rw[wrap_u32]
  have e:r % 4294967296=((r.toNat:Nat):Int):=om
  rw[e]
  exact h
end Go.Gg
namespace Go.Gg
theorem rA {n:Int} {Q:List Int->Prop} (h1:n<=9223372036854775807) (h:Q (lim n.toNat)):kR n Q:=by
 refine condT (λhc=>?_) (λhc=>?_)
 ·have:n.toNat=0:=om
  rw[this,dt] at h;exact h
 ·have e32:(2:Int)^Int.toNat 32=4294967296:=rfl
  rw[e32,wrap_u32,wrap_u32]
  have hw:Words [n % 4294967296,n / 4294967296 % 4294967296]:=(Words.nil.cons om om).cons om om
  refine ct hw (by simp[SM]) ?_
  have hv:val [n % 4294967296,n / 4294967296 % 4294967296]=n.toNat:=by
   rw[j6 hw,j6 hw.tail,nG];omega
  rw[hv];exact h
theorem Cq {a:List Int} (ha:Words a) {i:Nat} (hz:∀k,i<k->k<a.length->a.getD k 0=0) (hi:i<a.length) (hn:a.getD i 0≠0):(cd (val a):Int)=32*i+cd (a.getD i 0).toNat:=by
 have h0:=ha i
 have a1:=cA ha
 rw[nS (j:=i+1) a.length hi (λk h1 h2=>hz k om h2),pv] at a1
 obtain⟨b1,b2⟩:=bB ha i
 obtain⟨x,hx⟩:∃x:Nat,a.getD i 0=x:=⟨(a.getD i 0).toNat,by omega⟩
 rw[hx] at a1 hn h0 ⊢
 rw[Int.toNat_natCast]
 have hx0:x≠0:=om
 have c1:=pH (n:=x)
 have c2:=n_ hx0
 have hb:cd x≠0:=by unfold cd;rw[if_neg hx0];omega
 have ew:((4294967296^i:Nat):Int)=(4294967296:Int)^i:=by simp
 have e1:val a=(pv a i).toNat+x*4294967296^i:=by
  have:(val a:Int)=(((pv a i).toNat+x*4294967296^i:Nat):Int):=by
   rw[a1,Int.natCast_add,Int.natCast_mul,ew];omega
  omega
 have hlt:(pv a i).toNat<4294967296^i:=om
 have hpw:(4294967296:Nat)^i=2^(32*i):=by rw[Nat.pow_mul]
 have:cd (val a)=32*i+cd x:=by
  refine s9 ?_ (λ_=>?_)
  ·rw[e1,Nat.pow_add,<-hpw]
   have:(x+1)*4294967296^i<=2^cd x*4294967296^i:=Nat.mul_le_mul_right _ c1
   rw[Nat.add_mul,Nat.mul_comm (2^cd x)] at this
   omega
  ·have e:32*i+cd x-1=32*i+(cd x-1):=om
   rw[e1,e,Nat.pow_add,<-hpw]
   have:2^(cd x-1)*4294967296^i<=x*4294967296^i:=Nat.mul_le_mul_right _ c2
   rw[Nat.mul_comm (2^(cd x-1))] at this
   omega
 omega
theorem vC {a:List Int} {Q:Int->Prop} (ha:Words a) (la:SM a) (h:Q (cd (val a))):lT a Q:=by
 unfold SM at la
 refine⟨by unfold rng;omega,λx=>∃j:Nat,x=(j:Int)-1/\j<=a.length/\∀k,j<=k->k<a.length->a.getD k 0=0,λx=>(x+1).toNat,⟨a.length,rfl,by omega,λk h1 h2=>om⟩,?_⟩
 rintro _ ⟨j,rfl,hj,hz⟩
 refine condT (λhc=>⟨⟨by omega,by omega⟩,?_⟩) (λhc=>?_)
 ·obtain⟨i,rfl⟩:∃i,j=i+1:=⟨j-1,by omega⟩
  have ei:((i+1:Nat):Int)-1=(i:Int):=om
  rw[ei,gz]
  have h0:=ha i
  refine c_ (λhn=>⟨by unfold rng;omega,⟨by omega,by omega⟩,?_⟩) (λhe=>⟨by unfold rng;omega,⟨i,rfl,by omega,λk h1 h2=>?_⟩,by dsimp only;omega⟩)
  ·have hb:=Cq ha (λk h1 h2=>hz k om h2) om hn
   obtain⟨x,hx⟩:∃x:Nat,a.getD i 0=x:=⟨(a.getD i 0).toNat,by omega⟩
   rw[hx] at hb ⊢
   rw[Int.toNat_natCast] at hb
   have h32:=pI (x:=x) om
   refine Bk om ⟨by unfold rng;omega,?_⟩
   rw[<-hb];exact h
  ·by_cases hk:k=i
   ·subst hk;exact he
   ·exact hz k om h2
 ·obtain rfl:j=0:=om
  have:val a=0:=by
   have a1:=cA ha
   rw[nS (j:=0) a.length om (λk h1 h2=>hz k h1 h2)] at a1
   simp only[pv] at a1;omega
  rw[this,xj] at h
  exact h
theorem gt {l:List Int} {j i:Nat}:(l.drop j).getD i 0=l.getD (j+i) 0:=by
 rw[List.getD_eq_getElem?_getD,List.getD_eq_getElem?_getD,List.getElem?_drop]
theorem tC {l:List Int} {o i:Nat} {x:Int} (h:o+i<l.length):pv ((l.set (o+i) x).drop o) (i+1)=pv (l.drop o) i+x*4294967296^i:=by
 rw[pv,gt,j4 h]
 congr 1
 exact kf i (λk hk=>by rw[gt,gt,cF om])
theorem vv {u v:List Int} {o n:Nat} {g:Int} {Q:List Int->Bool->Prop} (hu:Words u) (hv:Words v) (lu:SM u) (ho:o+n<=u.length) (hn:v.length<n) (hg0:0<=g) (hg1:g<4294967296)
  (h:∀(w:List Int) (b:Int),Words w->w.length=u.length->(∀k,k<o\/o+n<=k->w.getD k 0=u.getD k 0)->(b=0\/b=1)->pv (w.drop o) n=pv (u.drop o) n-g*val v+b*4294967296^n->Q w (b == 1)) :
  lR u o n v g Q:=by
 unfold SM at lu
 refine⟨λy=>∃i:Nat,y.2.2.1=i/\i<=n/\y.2.2.2.length=u.length/\Words y.2.2.2/\(∀k,k<o\/o+i<=k->y.2.2.2.getD k 0=u.getD k 0)/\0<=y.1/\y.1<4294967296/\0<=y.2.1/\y.2.1<=1/\0<=g*pv v i-y.1*4294967296^i/\g*pv v i-y.1*4294967296^i<4294967296^i/\
   pv (y.2.2.2.drop o) i=pv (u.drop o) i-(g*pv v i-y.1*4294967296^i)+y.2.1*4294967296^i,λy=>n-y.2.2.1.toNat,
  ⟨0,rfl,by omega,rfl,hu,λ_ _=>rfl,Int.le_refl 0,by show(0:Int)<4294967296;omega,Int.le_refl 0,by show(0:Int)<=1;omega,by simp[pv],by simp[pv],by simp[pv]⟩,?_⟩
 rintro⟨c,b,x,w⟩ ⟨i,hx,hi,hlen,hw,hz,hc0,hc1,hb0,hb1,hl0,hl1,hpv⟩
 simp only at hx hi hlen hw hz hc0 hc1 hb0 hb1 hl0 hl1 hpv
 subst hx
 have hvi:=hv i
 have hwi:=hw (o+i)
 have eoi:(o:Int)+(i:Int)=((o+i:Nat):Int):=om
 refine condT (λhlt=>d4 hv ?_) (λhge=>?_)
 ·have hm0:0<=g*v.getD i 0:=Int.mul_nonneg hg0 hvi.1
  have hm1:g*v.getD i 0<=4294967295*4294967295:=Int.mul_le_mul om om hvi.1 om
  rw[wrap_u64_id hm0 om,wrap_u64_id om om]
  refine iF ⟨⟨by omega,hlt⟩,by omega,?_⟩
  rw[eoi,gz]
  generalize hc':c+g*v.getD i 0=d at *
  rw[wrap_u64_id hwi.1 om,wrap_u32,wrap_u64_id (m:=d % 4294967296) om om]
  obtain⟨q1,q2,q3⟩:=uA (w.getD (o+i) 0) (d % 4294967296) b hwi om ⟨hb0,hb1⟩
  refine iF ⟨⟨by omega,hlt⟩,by omega,by unfold rng;omega,?_,by dsimp only;omega⟩
  generalize IntKind.u64.wrap (IntKind.u64.wrap (w.getD (o+i) 0-d % 4294967296)-b)=e at *
  have e63:e / 2^Int.toNat 63=e / 9223372036854775808:=rfl
  have e32:d / 2^Int.toNat 32=d / 4294967296:=rfl
  rw[e63,e32,fV,wrap_u32]
  have hP:=fo i
  have p1:pv (u.drop o) (i+1)=pv (u.drop o) i+w.getD (o+i) 0*4294967296^i:=by rw[pv,gt,hz (o+i) om]
  have p2:g*pv v (i+1)=g*pv v i+g*v.getD i 0*4294967296^i:=by rw[pv,Int.mul_add,Int.mul_assoc]
  have p3:=Int.pow_succ (4294967296:Int) i
  have p0:=tC (l:=w) (o:=o) (i:=i) (x:=e % 4294967296) om
  generalize (4294967296:Int)^i=P at *
  have s1:=mh d P
  have s3:d*P=c*P+g*v.getD i 0*P:=by rw[<-hc',Int.add_mul]
  have s5:d % 4294967296*P<=4294967295*P:=Int.mul_le_mul_of_nonneg_right om om
  have s6:0<=d % 4294967296*P:=Int.mul_nonneg om om
  refine⟨i+1,rfl,by omega,by simp[hlen],hw.set _ om om,λk hk=>?_,by show 0<=d / 4294967296;omega,by show d / 4294967296<4294967296;omega,q2,q3,?_,?_,?_⟩
  ·show(w.set (o+i) _).getD k 0=_
   rw[cF om];exact hz k om
  ·show 0<=g*pv v (i+1)-d / 4294967296*4294967296^(i+1)
   rw[p2,p3];omega
  ·show g*pv v (i+1)-d / 4294967296*4294967296^(i+1)<4294967296^(i+1)
   rw[p2,p3];omega
  ·show pv ((w.set (o+i) (e % 4294967296)).drop o) (i+1)=pv (u.drop o) (i+1)-(g*pv v (i+1)-d / 4294967296*4294967296^(i+1))+e / 9223372036854775808*4294967296^(i+1)
   rw[p0,hpv,p1,p2,p3]
   have s0:e % 4294967296=w.getD (o+i) 0-d % 4294967296-b+4294967296*(e / 9223372036854775808):=om
   rw[s0]
   generalize e / 9223372036854775808=b' at *
   have s4:(w.getD (o+i) 0-d % 4294967296-b+4294967296*b')*P=w.getD (o+i) 0*P-d % 4294967296*P-b*P+b'*(P*4294967296):=by
    rw[Int.add_mul,Int.sub_mul,Int.sub_mul,Int.mul_comm 4294967296 b',Int.mul_assoc b',Int.mul_comm 4294967296 P]
   rw[s4]
   generalize d / 4294967296=d' at *
   generalize d % 4294967296=d'' at *
   clear q1 q2 q3 s0 s4 s5 s6 hpv
   omega
 ·obtain rfl:i=n:=om
  refine h w b hw hlen hz om ?_
  have a1:=eB hv (i:=i) om
  have hc:c=0:=by
   have hv1:=eB hv (i:=i-1) om
   have hb':=(bB hv (i-1)).2
   have hw0:=bB hw 0
   obtain⟨m,rfl⟩:∃m,i=m+1:=⟨i-1,by omega⟩
   rw[Nat.add_sub_cancel] at hv1 hb'
   have hP:=fo m
   rw[Int.pow_succ] at hpv
   have hgv:g*pv v (m+1)<=4294967295*(4294967296^m-1):=by
    rw[<-a1,hv1]
    exact Int.mul_le_mul om om (bB hv m).1 om
   rw[Int.pow_succ] at hl0
   generalize (4294967296:Int)^m=P at *
   rcases Int.lt_or_le 0 c with hc | hc
   ·have:1*(P*4294967296)<=c*(P*4294967296):=Int.mul_le_mul_of_nonneg_right om om
    omega
   ·omega
  subst hc
  rw[a1]
  rw[hpv];omega
theorem vz {u v:List Int} {o n:Nat} {Q:List Int->Prop} (hu:Words u) (hv:Words v) (lu:SM u) (ho:o+n<=u.length) (hn:v.length<=n)
  (h:∀(w:List Int) (c:Int),Words w->w.length=u.length->(∀k,k<o\/o+n<=k->w.getD k 0=u.getD k 0)->(c=0\/c=1)->pv (w.drop o) n+c*4294967296^n=pv (u.drop o) n+val v->Q w) :
  lS u o n v Q:=by
 unfold SM at lu
 refine⟨λy=>∃i:Nat,y.2.1=i/\i<=n/\y.2.2.length=u.length/\Words y.2.2/\(∀k,k<o\/o+i<=k->y.2.2.getD k 0=u.getD k 0)/\0<=y.1/\y.1<=1/\
   pv (y.2.2.drop o) i+y.1*4294967296^i=pv (u.drop o) i+pv v i,λy=>n-y.2.1.toNat,
  ⟨0,rfl,by omega,rfl,hu,λ_ _=>rfl,Int.le_refl 0,by show(0:Int)<=1;omega,by simp[pv]⟩,?_⟩
 rintro⟨c,x,w⟩ ⟨i,hx,hi,hlen,hw,hz,hc0,hc1,hpv⟩
 simp only at hx hi hlen hw hz hc0 hc1 hpv
 subst hx
 have hvi:=hv i
 have hwi:=hw (o+i)
 have eoi:(o:Int)+(i:Int)=((o+i:Nat):Int):=om
 refine condT (λhlt=>⟨⟨by omega,hlt⟩,by omega,v.getD i 0,d4 hv rfl,⟨by omega,hlt⟩,by omega,?_⟩) (λhge=>?_)
 ·rw[eoi,gz,wrap_u64_id hwi.1 om,wrap_u64_id (m:=w.getD (o+i) 0+v.getD i 0) om om,wrap_u64_id om om]
  refine iF ⟨by unfold rng;omega,?_,by dsimp only;omega⟩
  have e32:∀d:Int,d / 2^Int.toNat 32=d / 4294967296:=λ_=>rfl
  rw[e32,fV,wrap_u32]
  generalize hd:c+(w.getD (o+i) 0+v.getD i 0)=d
  refine⟨i+1,rfl,by omega,by simp[hlen],hw.set _ om om,λk hk=>?_,by show 0<=d / 4294967296;omega,by show d / 4294967296<=1;omega,?_⟩
  ·show(w.set (o+i) _).getD k 0=_
   rw[cF om];exact hz k om
  ·show pv ((w.set (o+i) (d % 4294967296)).drop o) (i+1)+d / 4294967296*4294967296^(i+1)=pv (u.drop o) (i+1)+pv v (i+1)
   have p0:=tC (l:=w) (o:=o) (i:=i) (x:=d % 4294967296) om
   have p1:pv (u.drop o) (i+1)=pv (u.drop o) i+w.getD (o+i) 0*4294967296^i:=by rw[pv,gt,hz (o+i) om]
   have p2:pv v (i+1)=pv v i+v.getD i 0*4294967296^i:=by rw[pv]
   rw[p0,p1,p2,Int.pow_succ]
   have s1:=mh d (4294967296^i)
   have s3:d*4294967296^i=c*4294967296^i+(w.getD (o+i) 0*4294967296^i+v.getD i 0*4294967296^i):=by rw[<-hd,Int.add_mul,Int.add_mul]
   omega
 ·obtain rfl:i=n:=om
  have a1:=eB hv (i:=i) om
  exact h w c hw hlen hz om (by rw[a1];exact hpv)
end Go.Gg
namespace Go.Gg
theorem jI {a b c:Nat} (h:a+b=c):(2:Int)^a*2^b=2^c:=by rw[<-Int.pow_add,h]
theorem zr {V P B top nx vl head th pl g:Int} (hV:V=(top*4294967296+nx)*B+vl) (hvl:0<=vl) (hP:P=(head*4294967296+th)*B+pl) (hpl:pl<B) (hB:0<B) (hg:0<=g)
  (h:head*4294967296+th<g*(top*4294967296+nx)):P<g*V:=by
 have h1:(head*4294967296+th+1)*B<=g*(top*4294967296+nx)*B:=Int.mul_le_mul_of_nonneg_right om om
 have h2:0<=g*vl:=Int.mul_nonneg hg hvl
 rw[hV,Int.mul_add,<-Int.mul_assoc]
 rw[Int.add_mul] at h1
 omega
theorem zs {V P B top nx vl head th pl g:Int} (hV:V=(top*4294967296+nx)*B+vl) (hvl0:0<=vl) (hvl:vl<B) (hP:P=(head*4294967296+th)*B+pl) (hpl:0<=pl) (hg0:0<=g) (hg:g<4294967296) (hVB:4294967296*B<=V)
  (h:g*(top*4294967296+nx)<=head*4294967296+th):(g-1)*V<=P:=by
 have h1:g*(top*4294967296+nx)*B<=(head*4294967296+th)*B:=Int.mul_le_mul_of_nonneg_right h om
 have h2:g*vl<=4294967296*B:=Int.mul_le_mul om om hvl0 om
 rw[Int.sub_mul,hV,Int.mul_add,<-Int.mul_assoc]
 rw[<-hV]
 omega
theorem nl {l:List Int} {i:Nat}:∀n,pv l (i+n)=pv l i+pv (l.drop i) n*4294967296^i
 | 0=>by simp[pv]
 | n+1=>by
  rw[<-Nat.add_assoc,pv,nl n,pv,gt,Int.add_mul,Int.pow_add,Int.mul_assoc (l.getD (i+n) 0),Int.mul_comm (4294967296^n)]
  omega
theorem xI {l m:List Int} {i n:Nat} (h:∀k,k<i\/i+n<=k->l.getD k 0=m.getD k 0):∀M,i+n<=M->pv l M-pv m M=(pv (l.drop i) n-pv (m.drop i) n)*4294967296^i
 | 0,hM=>by
  have h1:i=0:=om
  have h2:n=0:=om
  subst h1 h2
  simp[pv]
 | M+1,hM=>by
  by_cases he:i+n=M+1
  ·rw[<-he,nl,nl,kf i (λk hk=>h k (.inl hk)),Int.sub_mul];omega
  ·rw[pv,pv,h M (.inr om)]
   have:=xI h M om
   omega
theorem xN {n:Nat} (h:n≠0):(lim n).getD ((lim n).length-1) 0≠0:=by
 induction n using Nat.strongRecOn with
 | _ n ih=>
  rw[f_ om]
  simp only[List.length_cons,Nat.add_sub_cancel]
  by_cases h0:n / 4294967296=0
  ·rw[h0,dt];simp;omega
  ·have h1:=ih _ (Nat.div_lt_self om om) h0
   have h2:(lim (n / 4294967296)).length≠0:=by rw[f_ om];simp
   obtain⟨k,hk⟩:∃k,(lim (n / 4294967296)).length=k+1:=⟨_,(Nat.succ_pred_eq_of_ne_zero h2).symm⟩
   rw[hk] at h1 ⊢
   simpa using h1
theorem Al {top nx hd1 hd2 th V P B vl pl:Int} {next3:Int->Prop} {G1 G2 G3:Prop} (hG1:G1) (hG2:G2) (hG3:G3) (htop0:2147483648<=top) (htop:top<4294967296) (hnx:0<=nx/\nx<4294967296) (h1:0<=hd1/\hd1<=top) (h2:0<=hd2/\hd2<4294967296) (h3:0<=th/\th<4294967296)
  (hV:V=(top*4294967296+nx)*B+vl) (hvl:0<=vl/\vl<B) (hP:P=((hd1*4294967296+hd2)*4294967296+th)*B+pl) (hpl:0<=pl/\pl<B) (hB:0<B) (hPV:P<V*4294967296)
  (hn:∀g,0<=g->g<4294967296->P<(g+1)*V->(g-1)*V<=P->next3 g) :
  bj (σ:=Int×Int) (IntKind.u64.wrap (Int.tdiv (hd1*4294967296+hd2) top),Int.tmod (hd1*4294967296+hd2) top) λ⟨guess2,rest⟩ next4=>
   dA (α:=Unit) (λnext5=>an (decide (4294967296<=guess2)) (next5 ()) (G1/\G2/\G3/\an (decide (bits .or .u64 (IntKind.u64.wrap (rest*4294967296)) th<IntKind.u64.wrap (guess2*nx))) (next5 ()) (next3 guess2)))
    λ_=>kN (IntKind.u64.wrap (rest+top)) λrest1=>an (decide (4294967296<=rest1)) (next3 (IntKind.u64.wrap (guess2-1))) (next4 (IntKind.u64.wrap (guess2-1),rest1)):=by
 have hhd0:0<=hd1*4294967296+hd2:=om
 have hVB:4294967296*B<=V:=by
  have:4294967296*B<=(top*4294967296+nx)*B:=Int.mul_le_mul_of_nonneg_right om om
  omega
 generalize hhd:hd1*4294967296+hd2=head at *
 have hhead:head<=top*4294967296+4294967295:=om
 have hq0:0<=head / top:=Int.ediv_nonneg hhd0 om
 have hr0:0<=head % top:=Int.emod_nonneg _ om
 have hr1:head % top<top:=Int.emod_lt_of_pos _ om
 have hde:head=top*(head / top)+head % top:=(Int.mul_ediv_add_emod head top).symm
 have hqu:head / top<4294967298:=by
  rw[Int.ediv_lt_iff_lt_mul om];omega
 rw[Int.tdiv_eq_ediv_of_nonneg hhd0,Int.tmod_eq_emod_of_nonneg hhd0,wrap_u64_id hq0 om]
 refine⟨λy=>0<=y.1/\y.1<4294967298/\0<=y.2/\y.2<4294967296/\head=y.1*top+y.2/\P<(y.1+1)*V,λy=>y.1.toNat,⟨hq0,hqu,hr0,by show head % top<_;omega,by show head=head / top*top+head % top;rw[Int.mul_comm];exact hde,?_⟩,?_⟩
 ·show P<(head / top+1)*V
  refine zr hV hvl.1 hP hpl.2 hB om ?_
  have a1:(head / top+1)*top=top*(head / top)+top:=by rw[Int.add_mul,Int.mul_comm];omega
  have a2:(head / top+1)*(top*4294967296+nx)=(head / top+1)*top*4294967296+(head / top+1)*nx:=by rw[Int.mul_add,Int.mul_assoc]
  have a3:0<=(head / top+1)*nx:=Int.mul_nonneg om hnx.1
  omega
 rintro⟨g,r⟩ ⟨hg0,hg1,hr0,hr1,hh,hU⟩
 simp only at hg0 hg1 hr0 hr1 hh hU
 have hexp:g*(top*4294967296+nx)=(g*top)*4294967296+g*nx:=by rw[Int.mul_add,Int.mul_assoc]
 refine⟨λ_=>P<g*V,condT (λhc=>?_) (λhc=>⟨hG1,hG2,hG3,?_⟩),λ_ hlt=>?_⟩
 ·have:V*4294967296<=g*V:=by rw[Int.mul_comm V];exact Int.mul_le_mul_of_nonneg_right hc om
  omega
 ·have hgn0:0<=g*nx:=Int.mul_nonneg hg0 hnx.1
  have hgn1:g*nx<=4294967295*4294967295:=Int.mul_le_mul om om hnx.1 om
  rw[wrap_u64_id (m:=r*4294967296) om om,wrap_u64_id hgn0 om,vp 32 h3.1 h3.2 om (by show _ % 4294967296=0;omega) om]
  refine condT (λhgt=>?_) (λhle=>?_)
  ·exact zr hV hvl.1 hP hpl.2 hB hg0 om
  ·exact hn g hg0 om hU (zs hV hvl.1 hvl.2 hP hpl.1 hg0 om hVB om)
 ·have hg1':1<=g:=by
   rcases Int.lt_or_le g 1 with h | h
   ·have:g=0:=om
    subst this
    have hP0:0<=P:=by
     rw[hP]
     have:0<=(head*4294967296+th)*B:=Int.mul_nonneg om om
     omega
    simp at hlt;omega
   ·exact h
  rw[wrap_u64_id (m:=r+top) om om,wrap_u64_id (m:=g-1) om om]
  have hsub:(g-1)*top=g*top-top:=by rw[Int.sub_mul];omega
  have hexp2:(g-1)*(top*4294967296+nx)=((g-1)*top)*4294967296+(g-1)*nx:=by rw[Int.mul_add,Int.mul_assoc]
  refine iF (condT (λhc=>?_) (λhc=>⟨⟨by show 0<=g-1;omega,by show g-1<_;omega,by show 0<=r+top;omega,by show r+top<_;omega,by show head=(g-1)*top+(r+top);omega,by show P<(g-1+1)*V;rw[Int.sub_add_cancel];exact hlt⟩,by show(g-1).toNat<g.toNat;omega⟩))
  have hgW:g-1<4294967296:=by
   rcases Int.lt_or_le (g-1) 4294967296 with h | h
   ·exact h
   ·have:4294967296*top<=(g-1)*top:=Int.mul_le_mul_of_nonneg_right h om
    omega
  have hgn1:(g-1)*nx<=4294967295*4294967295:=Int.mul_le_mul om om hnx.1 om
  refine hn (g-1) om hgW (by rw[Int.sub_add_cancel];exact hlt) (zs hV hvl.1 hvl.2 hP hpl.1 om hgW hVB om)
set_option maxHeartbeats 2000000 in
theorem m7 {a b:List Int} {Q:List Int->List Int->Option Int->Prop} (ha:Words a) (hb:Words b) (la:a.length<=1099511627774) (lb:b.length<=1099511627774)
  (h0:val b=0->Q [] [] (some 8)) (h:val b≠0->Q (lim (val a / val b)) (lim (val a % val b)) none):iE a b Q:=by
 refine ct ha (by unfold SM;omega) (ct hb (by unfold SM;omega) ?_)
 have b1:=dJ ha
 have b2:=dJ hb
 have w1:=aM (val a)
 have w2:=aM (val b)
 have v1:=bb (val a)
 have v2:=bb (val b)
 refine bP (λhc=>?_) (λhc=>?_)
 ·have:(lim (val b)).length=0:=om
  have:lim (val b)=[]:=List.eq_nil_of_length_eq_zero this
  rw[this,nG] at v2
  exact h0 v2.symm
 have hB:val b≠0:=by intro hh;rw[hh,dt] at hc;exact hc rfl
 replace h:=h hB
 clear h0
 refine gr w1 w2 (by unfold SM;omega) (by unfold SM;omega) ?_
 rw[v1,v2]
 refine condT (λhlt=>?_) (λhge=>bP (λh1=>?_) (λh1=>?_))
 ·have:=kW.1 hlt
  rw[Nat.div_eq_of_lt this,Nat.mod_eq_of_lt this,dt] at h
  exact h
 ·
  have hl1:(lim (val b)).length=1:=om
  have hw0:=w2 0
  have hbv:(val b:Int)=(lim (val b)).getD 0 0:=by
   have:=cA w2
   rw[v2,hl1] at this
   simpa[pv] using this
  refine⟨⟨by omega,by omega⟩,?_⟩
  have e0:at' (lim (val b)) 0=(val b:Int):=by rw[hbv];rfl
  rw[e0]
  have hm:val a % val b<val b:=Nat.mod_lt _ om
  refine t7 w1 (by unfold SM;omega) om om ?_
  rw[v1,Int.toNat_natCast,jf (by unfold rng;omega)]
  refine rA om ?_
  rw[Int.toNat_natCast]
  exact h
 obtain⟨m,hm⟩:∃m,(lim (val b)).length=m+2:=⟨(lim (val b)).length-2,by omega⟩
 have hge':val b<=val a:=by
  rcases Nat.lt_or_ge (val a) (val b) with hh | hh
  ·exact absurd (kW.2 hh) hge
  ·exact hh
 have hlen:m+2<=(lim (val a)).length:=by rw[<-hm];exact cV hge'
 generalize hA:val a=A at *
 generalize hBv:val b=B at *
 have htop:=xN hB
 have hbd:(val (lim B):Int)=_:=cA w2
 rw[v2] at hbd
 have hAp:(A:Int)<4294967296^(lim A).length:=by
  have:=(bB w1 (lim A).length).2
  have e:=cA w1
  rw[v1] at e;omega
 generalize hla:lim A=al at *
 generalize hlb:lim B=bl at *
 rw[hm] at htop hbd
 have e21:m+2-1=m+1:=om
 rw[e21] at htop
 have hwt:=w2 (m+1)
 have hml:(bl.length:Int)-1=((m+1:Nat):Int):=om
 rw[hml]
 obtain⟨tp,htp⟩:∃x:Nat,bl.getD (m+1) 0=x:=⟨(bl.getD (m+1) 0).toNat,by omega⟩
 refine⟨by unfold rng;omega,⟨by omega,by omega⟩,?_⟩
 rw[gz,htp]
 rw[htp] at htop hwt
 have htp0:tp≠0:=om
 have c1:=pH (n:=tp)
 have c2:=n_ htp0
 have c3:=pI (x:=tp) om
 have c4:cd tp≠0:=by unfold cd;rw[if_neg htp0];omega
 refine GF om ?_
 obtain⟨s,hs⟩:∃s,32-cd tp=s:=⟨_,rfl⟩
 rw[hs]
 have hs31:s<=31:=om
 refine oY w2 om om (λr4 hr4 hr4l hr4v=>?_)
 rw[hm] at hr4l
 rw[v2] at hr4v
 refine⟨⟨by omega,by omega,by omega⟩,iF ?_⟩
 have hvl:(bH r4 0 (bl.length:Int))=r4.take (m+2):=by
  show(r4.drop 0).take (((bl.length:Nat):Int).toNat-0)=_
  rw[Int.toNat_natCast,hm];rfl
 rw[hvl]
 have hvlen:(r4.take (m+2)).length=m+2:=by rw[List.length_take,hr4l];omega
 have hPm:=fo m
 have ew:(4294967296:Int)^(m+2)=4294967296^m*4294967296*4294967296:=by rw[Int.pow_succ,Int.pow_succ]
 have ew1:(4294967296:Int)^(m+1)=4294967296^m*4294967296:=Int.pow_succ ..
 have hbd2:(B:Int)=pv bl m+bl.getD m 0*4294967296^m+tp*(4294967296^m*4294967296):=by rw[hbd,pv,pv,htp,ew1]
 have hbm:=bB w2 m
 have hbm1:=w2 m
 have hlow:bl.getD m 0*4294967296^m<=4294967295*4294967296^m:=Int.mul_le_mul_of_nonneg_right om om
 have hlow0:0<=bl.getD m 0*4294967296^m:=Int.mul_nonneg hbm1.1 om
 have hps:=fI s
 have hts:(tp:Int)*2^s<4294967296/\2147483648<=(tp:Int)*2^s:=by
  have e1:(2:Int)^(cd tp)*2^s=4294967296:=jI (c:=32) om
  have e2:(2:Int)^(cd tp-1)*2^s=2147483648:=jI (c:=31) om
  have f1:(tp:Int)+1<=2^(cd tp):=by exact_mod_cast c1
  have f2:(2:Int)^(cd tp-1)<=tp:=by exact_mod_cast c2
  have g1:((tp:Int)+1)*2^s<=2^(cd tp)*2^s:=Int.mul_le_mul_of_nonneg_right f1 om
  have g2:(2:Int)^(cd tp-1)*2^s<=tp*2^s:=Int.mul_le_mul_of_nonneg_right f2 om
  rw[Int.add_mul] at g1
  omega
 have hVval:((val r4:Nat):Int)=(B:Int)*2^s:=by rw[hr4v];simp
 have hr4p:=cA hr4
 rw[hr4l] at hr4p
 have hVlt:(val r4:Int)<4294967296^(m+2):=by
  have k1:(B:Int)+1<=(tp+1)*(4294967296^m*4294967296):=by rw[Int.add_mul];omega
  have k2:((B:Int)+1)*2^s<=((tp+1)*(4294967296^m*4294967296))*2^s:=Int.mul_le_mul_of_nonneg_right k1 om
  have k3:(((tp:Int)+1)*2^s)<=4294967296:=by
   have f1:(tp:Int)+1<=2^(cd tp):=by exact_mod_cast c1
   have e1:(2:Int)^(cd tp)*2^s=4294967296:=jI (c:=32) om
   have g1:((tp:Int)+1)*2^s<=2^(cd tp)*2^s:=Int.mul_le_mul_of_nonneg_right f1 om
   omega
  have k4:(((tp:Int)+1)*2^s)*(4294967296^m*4294967296)<=4294967296*(4294967296^m*4294967296):=Int.mul_le_mul_of_nonneg_right k3 om
  rw[Int.mul_right_comm] at k2
  rw[Int.add_mul] at k2
  rw[hVval,ew]
  omega
 have hVge:2147483648*(4294967296^m*4294967296)<=(val r4:Int):=by
  have k1:(tp:Int)*(4294967296^m*4294967296)<=B:=om
  have k2:(tp:Int)*(4294967296^m*4294967296)*2^s<=B*2^s:=Int.mul_le_mul_of_nonneg_right k1 om
  have k3:2147483648*(4294967296^m*4294967296)<=(tp:Int)*2^s*(4294967296^m*4294967296):=Int.mul_le_mul_of_nonneg_right hts.2 om
  rw[Int.mul_right_comm] at k2
  omega
 have hVp:(val r4:Int)=pv (r4.take (m+2)) (m+2):=by
  rw[hr4p] at hVlt ⊢
  rw[A7 (Nat.le_refl _)]
  exact ri hr4 om hVlt
 have hwv:Words (r4.take (m+2)):=hr4.take _
 have hvv:val (r4.take (m+2))=val r4:=by
  have:=cA hwv
  rw[hvlen,<-hVp] at this;omega
 generalize hv:r4.take (m+2)=v at *
 generalize hVV:val r4=V at *
 clear hr4 hr4l hr4p hvl
 refine oY w1 om om (λu hu hul huv=>?_)
 rw[v1] at huv
 have hvl1:(v.length:Int)-1=((m+1:Nat):Int):=om
 have hvl2:(v.length:Int)-2=(m:Int):=om
 obtain⟨K,hK⟩:∃K,al.length=K+(m+2):=⟨al.length-(m+2),by omega⟩
 have hkl:(u.length:Int)-(v.length:Int)=((K+1:Nat):Int):=om
 rw[hvl1,hvl2,hkl]
 refine⟨by unfold rng;omega,⟨by omega,by omega⟩,by unfold rng;omega,⟨by omega,by omega⟩,by unfold rng;omega,rB om om,by unfold rng;omega,iF ?_⟩
 rw[Int.toNat_natCast]
 have hU:(val u:Int)<V*4294967296^(K+1):=by
  have k0:((val u:Nat):Int)=(A:Int)*2^s:=by rw[huv];simp
  have k1:(2:Int)^s<=2147483648:=by
   have:(2:Int)^s*2^(31-s)=2147483648:=jI (c:=31) om
   have h2:=fI (31-s)
   have:(2:Int)^s*1<=2^s*2^(31-s):=Int.mul_le_mul_of_nonneg_left om om
   omega
  have k2:(A:Int)*2^s<4294967296^al.length*2^s:=Int.mul_lt_mul_of_pos_right hAp hps
  have k3:(4294967296:Int)^al.length*2^s<=4294967296^al.length*2147483648:=Int.mul_le_mul_of_nonneg_left k1 (by have:=fo al.length;omega)
  have k4:(4294967296:Int)^al.length=4294967296^m*4294967296*4294967296^(K+1):=by
   rw[hK,<-Int.pow_succ,<-Int.pow_add];congr 1;omega
  rw[k4] at k2 k3
  have k6:(2147483648:Int)*(4294967296^m*4294967296*4294967296^(K+1))=4294967296^m*4294967296*4294967296^(K+1)*2147483648:=Int.mul_comm _ _
  have k7:(2147483648:Int)*(4294967296^m*4294967296)*4294967296^(K+1)=2147483648*(4294967296^m*4294967296*4294967296^(K+1)):=Int.mul_assoc ..
  have hPK:=fo (K+1)
  have k8:(2147483648:Int)*(4294967296^m*4294967296)*4294967296^(K+1)<=(V:Int)*4294967296^(K+1):=Int.mul_le_mul_of_nonneg_right hVge (Int.le_of_lt hPK)
  omega
 have hup:=cA hu
 have hulk:u.length=K+m+3:=om
 rw[hulk] at hup
 have hvm:=hwv m
 have hvm1:=hwv (m+1)
 have hVexp:(V:Int)=(v.getD (m+1) 0*4294967296+v.getD m 0)*4294967296^m+pv v m:=by
  rw[hVp,pv,pv,ew1,Int.add_mul,Int.mul_assoc,Int.mul_comm 4294967296];omega
 have hvlo:=bB hwv m
 have htopge:2147483648<=v.getD (m+1) 0:=by
  rcases Int.lt_or_le (v.getD (m+1) 0) 2147483648 with hh | hh
  ·exfalso
   have k1:(v.getD (m+1) 0*4294967296+v.getD m 0+1)*4294967296^m<=(2147483647*4294967296+4294967296)*4294967296^m:=Int.mul_le_mul_of_nonneg_right om om
   rw[Int.add_mul] at k1
   omega
  ·exact hh
 have hV0:0<(V:Int):=om
 refine⟨λy=>∃j:Nat,y.1=(j:Int)-1/\j<=K+1/\y.2.1.length=K+m+3/\Words y.2.1/\y.2.2.length=K+1/\Words y.2.2/\(∀k,k<j->y.2.2.getD k 0=0)/\
   (val u:Int)=pv y.2.2 (K+1)*V+pv y.2.1 (K+m+3)/\pv y.2.1 (K+m+3)<V*4294967296^j,λy=>(y.1+1).toNat,
  ⟨K+1,rfl,Nat.le_refl _,hulk,hu,by simp[bS],Words.rep _,λk hk=>?_,?_,?_⟩,?_⟩
 ·show(List.replicate (K+1) (0:Int)).getD k 0=0
  rw[List.getD_eq_getElem?_getD,List.getElem?_replicate];split<;>rfl
 ·show(val u:Int)=pv (List.replicate (K+1) (0:Int)) (K+1)*V+pv u (K+m+3)
  rw[qu,<-hup];omega
 ·show pv u (K+m+3)<_
  rw[<-hup];exact hU
 clear hU hup hulk hul hu
 rintro⟨x,u1,q⟩ ⟨j,hx,hj,hul1,hu1,hql,hq,hqz,hsum,hrem⟩
 simp only at hx hj hul1 hu1 hql hq hqz hsum hrem
 subst hx
 refine condT (λhc=>?_) (λhc=>?_)
 ·obtain⟨i,rfl⟩:∃i,j=i+1:=⟨j-1,by omega⟩
  have ei:((i+1:Nat):Int)-1=(i:Int):=om
  have f1:(i:Int)+(v.length:Int)=((i+(m+2):Nat):Int):=om
  have f2:((i+(m+2):Nat):Int)-1=((i+(m+1):Nat):Int):=om
  have f3:((i+(m+2):Nat):Int)-2=((i+m:Nat):Int):=om
  have f4:((i+(m+2):Nat):Int)+1=((i+(m+3):Nat):Int):=om
  have f5:0+Int.toNat (i:Int)=i:=om
  have f6:Int.toNat ((i+(m+3):Nat):Int)-Int.toNat (i:Int)=m+3:=om
  have h1:=hu1 (i+(m+2))
  have h2:=hu1 (i+(m+1))
  have h3:=hu1 (i+m)
  have e32:(2:Int)^Int.toNat 32=4294967296:=rfl
  have g1:=wrap_u64_id (m:=u1.getD (i+(m+2)) 0) om om
  have g2:=wrap_u64_id (m:=u1.getD (i+(m+1)) 0) om om
  have g3:=wrap_u64_id (m:=u1.getD (i+m) 0) om om
  have g4:=wrap_u64_id (m:=v.getD (m+1) 0) om om
  have g5:=wrap_u64_id (m:=v.getD m 0) om om
  have g6:=wrap_u64_id (m:=u1.getD (i+(m+2)) 0*4294967296) om om
  have g7:=vp (x:=u1.getD (i+(m+1)) 0) (y:=u1.getD (i+(m+2)) 0*4294967296) 32 h2.1 h2.2 om (by show _ % 4294967296=0;omega) om
  simp only[ei,f1,f2,f3,f4,f5,f6,gz,e32,g1,g2,g3,g4,g5,g6,g7]
  obtain⟨P,hPd⟩:∃P,P=pv (u1.drop i) (m+3):=⟨_,rfl⟩
  have hPi:=fo i
  have hud:Words (u1.drop i):=hu1.drop i
  have hPb:=bB hud (m+3)
  have htot:pv u1 (K+m+3)=pv u1 i+P*4294967296^i:=by
   have k0:K+m+3=i+((m+3)+(K-i)):=om
   rw[k0,nl]
   congr 2
   rw[hPd]
   refine ri hud om ?_
   rw[k0,nl,Int.pow_succ] at hrem
   have k1:=(bB hu1 i).1
   have k2:pv (u1.drop i) (m+3+(K-i))*4294967296^i<(V*4294967296)*4294967296^i:=by
    rw[Int.mul_assoc,Int.mul_comm 4294967296];omega
   have k3:=Int.lt_of_mul_lt_mul_right k2 (Int.le_of_lt hPi)
   have k4:(4294967296:Int)^(m+3)=4294967296^(m+2)*4294967296:=Int.pow_succ ..
   omega
  have hPV:P<V*4294967296:=by
   have k1:=(bB hu1 i).1
   rw[htot,Int.pow_succ] at hrem
   have k2:P*4294967296^i<(V*4294967296)*4294967296^i:=by
    rw[Int.mul_assoc,Int.mul_comm 4294967296];omega
   exact Int.lt_of_mul_lt_mul_right k2 (Int.le_of_lt hPi)
  have hP0:0<=P:=by rw[hPd];exact hPb.1
  have hPexp:P=((u1.getD (i+(m+2)) 0*4294967296+u1.getD (i+(m+1)) 0)*4294967296+u1.getD (i+m) 0)*4294967296^m+pv (u1.drop i) m:=by
   rw[hPd,pv,pv,pv,gt,gt,gt,ew,ew1]
   generalize (4294967296:Int)^m=B
   generalize pv (u1.drop i) m=z
   grind
  have hhd:u1.getD (i+(m+2)) 0<=v.getD (m+1) 0:=by
   rcases Int.lt_or_le (v.getD (m+1) 0) (u1.getD (i+(m+2)) 0) with hh | hh
   ·exfalso
    have k1:(v.getD (m+1) 0+1)*(4294967296^m*4294967296*4294967296)<=u1.getD (i+(m+2)) 0*(4294967296^m*4294967296*4294967296):=Int.mul_le_mul_of_nonneg_right om om
    have k2:P=u1.getD (i+(m+2)) 0*(4294967296^m*4294967296*4294967296)+pv (u1.drop i) (m+2):=by rw[hPd,pv,gt,ew];omega
    have k3:=(bB hud (m+2)).1
    have k4:(V:Int)=v.getD (m+1) 0*(4294967296^m*4294967296)+pv v (m+1):=by rw[hVp,pv,ew1];omega
    have k5:=(bB hwv (m+1)).2
    rw[ew1] at k5
    have k6:(V:Int)*4294967296<(v.getD (m+1) 0+1)*(4294967296^m*4294967296*4294967296):=by
     rw[Int.add_mul,<-Int.mul_assoc (v.getD (m+1) 0),k4];omega
    omega
   ·exact hh
  refine⟨by unfold rng;omega,⟨by omega,by omega⟩,by unfold rng;omega,by unfold rng;omega,⟨by omega,by omega⟩,by omega,by omega,λg=>0<=g/\g<4294967296/\P<(g+1)*V/\(g-1)*V<=P,
   Al (next3:=λg=>0<=g/\g<4294967296/\P<(g+1)*V/\(g-1)*V<=P) (G1:=rng ((i+(m+2):Nat):Int)) (G2:=rng ((i+m:Nat):Int)) (G3:=(0:Int)<=((i+m:Nat):Int)/\((i+m:Nat):Int)<(u1.length:Int)) (by unfold rng;omega) (by unfold rng;omega) ⟨by omega,by omega⟩ htopge hvm1.2 hvm ⟨h1.1,hhd⟩ h2 h3 hVexp hvlo hPexp (bB hud m) hPm hPV (λg a1 a2 a3 a4=>⟨a1,a2,a3,a4⟩),?_⟩
  rintro g ⟨hg0,hg1,hgU,hgL⟩
  have hPW:(4294967296:Int)^(m+3)=4294967296^(m+2)*4294967296:=Int.pow_succ ..
  refine⟨λy=>Words y.2/\y.2.length=K+m+3/\(∀k,k<i\/i+(m+3)<=k->y.2.getD k 0=u1.getD k 0)/\0<=y.1/\y.1<4294967296/\pv (y.2.drop i) (m+3)=P-y.1*V/\P-y.1*V<V,?_,?_⟩
  ·refine⟨by unfold rng;omega,by unfold rng;omega,⟨by omega,by omega,by omega⟩,?_⟩
   refine vv hu1 hwv (by unfold SM;omega) om om hg0 hg1 (λw b hw hwl hwz hb hwp=>⟨hwl,?_⟩)
   rw[hvv,<-hPd] at hwp
   have hwd:=bB (hw.drop i) (m+3)
   have hgs:(g-1)*(V:Int)=g*V-V:=by rw[Int.sub_mul];omega
   have hga:(g+1)*(V:Int)=g*V+V:=by rw[Int.add_mul];omega
   rcases hb with rfl | rfl
   ·refine⟨λhh=>(by cases hh),λ_=>⟨hw,by show w.length=_;omega,hwz,hg0,hg1,?_,?_⟩⟩
    ·show pv (w.drop i) (m+3)=P-g*V
     omega
    ·show P-g*V<V
     omega
   ·refine⟨λ_=>⟨by unfold rng;omega,by unfold rng;omega,⟨by omega,by omega,by omega⟩,?_⟩,λhh=>by cases hh⟩
    refine vz hw hwv (by unfold SM;omega) om om (λw' c hw' hwl' hwz' hc' hwp'=>⟨hwl',?_⟩)
    rw[hvv] at hwp'
    have hwd':=bB (hw'.drop i) (m+3)
    have hg1':1<=g:=by
     rcases Int.lt_or_le g 1 with hh | hh
     ·have:g=0:=om
      subst this
      omega
     ·exact hh
    rw[wrap_u64_id (m:=g-1) om om]
    refine⟨hw',by show w'.length=_;omega,λk hk=>?_,by show 0<=g-1;omega,by show g-1<_;omega,?_,?_⟩
    ·show w'.getD k 0=_
     rw[hwz' k hk,hwz k hk]
    ·show pv (w'.drop i) (m+3)=P-(g-1)*V
     rcases hc' with rfl | rfl<;>omega
    ·show P-(g-1)*V<V
     omega
  ·rintro⟨g',u2⟩ ⟨hu2,hul2,hz2,hg0',hg1',hp2,hr2⟩
   simp only at hu2 hul2 hz2 hg0' hg1' hp2 hr2
   refine⟨⟨by omega,by omega⟩,by unfold rng;omega,⟨i,rfl,by omega,hul2,hu2,by simp[bw,hql],?_,λk hk=>?_,?_,?_⟩,by first | omega | (dsimp only;omega)⟩
   ·rw[wrap_u32,fV];exact hq.set _ om om
   ·show(bw q (i:Int) _).getD k 0=0
    rw[fV,cF om];exact hqz k om
   ·show(val u:Int)=pv (bw q (i:Int) (IntKind.u32.wrap g')) (K+1)*V+pv u2 (K+m+3)
    have k0:=xI hz2 (K+m+3) om
    have hgm:g' % 4294967296=g':=om
    rw[fV,wrap_u32,hgm,gO om (K+1) om,hqz i om,Int.sub_zero,hsum,Int.add_mul]
    rw[hp2,<-hPd] at k0
    have k1:(P-g'*V-P)*4294967296^i = - (g'*4294967296^i*V):=by
     have:P-g'*V-P = - (g'*V):=om
     rw[this,Int.neg_mul,Int.mul_right_comm]
    omega
   ·show pv u2 (K+m+3)<V*4294967296^i
    have k0:=xI hz2 (K+m+3) om
    rw[hp2,<-hPd,htot] at k0
    have k1:=(bB hu1 i).2
    have k2:(P-g'*V+1)*4294967296^i<=V*4294967296^i:=Int.mul_le_mul_of_nonneg_right om om
    have k3:(P-g'*V-P)*4294967296^i=(P-g'*V)*4294967296^i-P*4294967296^i:=by rw[Int.sub_mul]
    rw[Int.add_mul] at k2
    omega
 ·obtain rfl:j=0:=om
  rw[Int.pow_zero,Int.mul_one] at hrem
  have hq1:=cA hq
  have hu1v:=cA hu1
  rw[hql] at hq1
  rw[hul1] at hu1v
  rw[<-hq1,<-hu1v] at hsum
  rw[<-hu1v] at hrem
  have hsumN:val u=val q*V+val u1:=by
   have:((val u:Nat):Int)=((val q*V+val u1:Nat):Int):=by rw[Int.natCast_add,Int.natCast_mul];exact hsum
   omega
  have hVB:V=B*2^s:=hr4v
  have hps':0<2^s:=Nat.pow_pos om
  have hV0':0<V:=om
  have hdiv:A / B=val q:=by
   have k1:A*2^s / (B*2^s)=A / B:=Nat.mul_div_mul_right _ _ hps'
   rw[<-k1,<-huv,<-hVB,hsumN,Nat.add_comm,Nat.add_mul_div_right _ _ hV0',Nat.div_eq_of_lt om];omega
  have hmod:A % B=val u1 / 2^s:=by
   have k1:A*2^s % (B*2^s)=A % B*2^s:=Nat.mul_mod_mul_right _ _ _
   rw[<-huv,<-hVB,hsumN,Nat.add_comm,Nat.add_mul_mod_self_right,Nat.mod_eq_of_lt om] at k1
   rw[k1,Nat.mul_div_cancel _ hps']
  refine ct hq (by unfold SM;omega) (t8 hu1 (by unfold SM;omega) om (λr hr hrl hrv=>ct hr (by unfold SM;omega) ?_))
  rw[hrv,<-hmod,<-hdiv]
  exact h
theorem qd {a b:List Int} {Q:List Int->Prop} (ha:Words a) (hb:Words b) (la:a.length<=1099511627774) (lb:b.length<=1099511627774) (h:Q (lim (Nat.gcd (val a) (val b)))):jX a b Q:=by
 refine ct ha (by unfold SM;omega) (ct hb (by unfold SM;omega) ?_)
 have b1:=dJ ha
 have b2:=dJ hb
 refine⟨λy=>∃m n:Nat,y=(lim m,lim n)/\(lim m).length<=1099511627774/\(lim n).length<=1099511627774/\Nat.gcd m n=Nat.gcd (val a) (val b),λy=>val y.2,⟨_,_,rfl,by omega,by omega,rfl⟩,?_⟩
 rintro _ ⟨m,n,rfl,hm,hn,hg⟩
 refine condT (λhc=>?_) (λhc=>?_)
 ·have hn0:n≠0:=by rintro rfl;rw[dt] at hc;simp at hc
  refine m7 (aM m) (aM n) hm hn (λh0=>absurd (by rw[bb] at h0;exact h0) hn0) (λ_=>?_)
  rw[bb,bb]
  have hlt:=Nat.mod_lt m (Nat.pos_of_ne_zero hn0)
  refine⟨⟨n,m % n,rfl,hn,Nat.le_trans (cV (Nat.le_of_lt hlt)) hn,?_⟩,?_⟩
  ·rw[<-hg,Nat.gcd_comm n,<-Nat.gcd_rec,Nat.gcd_comm]
  ·show val (lim (m % n))<val (lim n)
   rw[bb,bb];exact hlt
 ·have hn0:n=0:=by
   rcases Nat.eq_zero_or_pos n with h0 | h0
   ·exact h0
   ·rw[f_ h0] at hc;simp at hc
  subst hn0
  rw[Nat.gcd_zero_right] at hg
  rw[<-hg] at h
  exact h
end Go.Gg
namespace Go.Gg
theorem rh {l:List Int} {n:Nat} {x:Int} (h:l.length=n):pv (l++[x]) (n+1)=pv l n+x*4294967296^n:=by
 rw[pv,B5 om,qg om]
 have:n-l.length=0:=om
 rw[this];rfl
theorem Words.one {x:Int} (h0:0<=x) (h1:x<4294967296):Words [x]:=Words.nil.cons h0 h1
theorem v7 {l:List Int} {x:Int} (h:l.length<=1099511627776):(l++[x]).length*4<=140737488355328:=by simp;omega
theorem cH {a:List Int} {i:Nat} {Q:Int->Prop} (hw:Words a) (h:Q (a.getD i 0)):cq a (i:Int) Q:=by
 refine condT (λhc=>⟨⟨by omega,hc⟩,?_⟩) (λhc=>?_)
 ·rw[gz]
  have:=hw i
  rw[wrap_u64_id om om]
  exact h
 ·rw[pD om] at h
  exact h
theorem dO {a:List Int} {Q:List Int->Prop} (hw:Words a) (hl:SM a) (h:Q (lim (val a))):c7 a Q:=by
 refine⟨λn=>∃j:Nat,n=j/\j<=a.length/\(∀i,j<=i->i<a.length->a.getD i 0=0)/\(0<j->a.getD (j-1) 0≠0),?_,?_⟩
 ·refine⟨λn=>∃j:Nat,n=j/\j<=a.length/\(∀i,j<=i->i<a.length->a.getD i 0=0),λn=>n.toNat,⟨a.length,rfl,Nat.le_refl _,λi h1 h2=>om⟩,?_⟩
  rintro n ⟨j,rfl,hj,hz⟩
  refine condT (λhc=>⟨by unfold rng;omega,⟨by omega,by omega⟩,bP (λhe=>⟨by unfold rng;omega,⟨j-1,by omega,by omega,λi h1 h2=>?_⟩,by dsimp only;omega⟩) (λhe=>⟨j,rfl,hj,hz,λ_=>?_⟩)⟩) (λhc=>⟨j,rfl,hj,hz,λh0=>om⟩)
  ·by_cases hi:i=j-1
   ·subst hi
    rw[ta] at he
    have:((j:Int)-1).toNat=j-1:=om
    rwa[this] at he
   ·exact hz i om h2
  ·rw[ta] at he
   have:((j:Int)-1).toNat=j-1:=om
   rwa[this] at he
 ·rintro n ⟨j,rfl,hj,hz,hlast⟩
  have e:=rF hw hj hz hlast
  refine⟨⟨by omega,by omega,by omega⟩,?_,?_⟩
  ·simp[bH]
   have:min j a.length<=a.length:=om
   omega
  ·rw[<-e] at h
   simpa[bH] using h
theorem oQ {a b:List Int} {Q:Int->Prop} (ha:Words a) (hb:Words b) (la:SM a) (lb:SM b) (h:Q (n8 (val a) (val b))):i4 a b Q:=by
 unfold SM at la lb
 obtain⟨N,hN⟩:∃N,N=max a.length b.length:=⟨_,rfl⟩
 have hNi:max (a.length:Int) (b.length:Int)=(N:Int):=om
 have v1:=eB ha (i:=N) om
 have v2:=eB hb (i:=N) om
 unfold i4
 rw[hNi]
 refine⟨by unfold rng;omega,iF ⟨λi=>∃j:Nat,i=(j:Int)-1/\j<=N/\(∀k,j<=k->k<N->a.getD k 0=b.getD k 0),λi=>(i+1).toNat,⟨N,rfl,Nat.le_refl _,λk h1 h2=>om⟩,?_⟩⟩
 rintro _ ⟨j,rfl,hj,he⟩
 refine condT (λhc=>?_) (λhc=>?_)
 ·obtain⟨i,rfl⟩:∃i,j=i+1:=⟨j-1,by omega⟩
  have ei:((i+1:Nat):Int)-1=(i:Int):=om
  rw[ei]
  refine cH ha (cH hb (condT (λh1=>?_) (λh1=>cH ha (cH hb (condT (λh2=>?_) (λh2=>⟨by unfold rng;omega,⟨i,rfl,by omega,λk h3 h4=>?_⟩,by dsimp only;omega⟩))))))
  ·have:=A8 ha hb (i:=i) (n:=N) om h1 (λk h1 h2=>he k om h2)
   rw[n8,if_pos om] at h;exact h
  ·have:=A8 hb ha (i:=i) (n:=N) om h2 (λk h1 h2=>(he k om h2).symm)
   rw[n8,if_neg om,if_neg om] at h;exact h
  ·by_cases hk:k=i
   ·subst hk;omega
   ·exact he k om h4
 ·have:=kf (l:=a) (m:=b) N (λk hk=>he k om hk)
  rw[n8,if_neg om,if_pos om] at h;exact h
theorem yU {a b:List Int} {Q:List Int->Prop} (ha:Words a) (hb:Words b) (lb:a.length<=1099511627775/\b.length<=1099511627775) (h:Q (lim (val a+val b))):mu a b Q:=by
 obtain⟨n,hn0⟩:∃n,n=max a.length b.length+1:=⟨_,rfl⟩
 have hn:max (a.length:Int) (b.length:Int)+1=(n:Int):=om
 unfold mu
 rw[hn]
 refine⟨by unfold rng;omega,?_⟩
 refine⟨λy=>∃i:Nat,y.2.1=i/\i<=n/\y.2.2.length=i/\Words y.2.2/\0<=y.1/\y.1<=1/\pv y.2.2 i+y.1*4294967296^i=pv a i+pv b i,λy=>n-y.2.1.toNat,⟨0,rfl,by omega,rfl,Words.nil,by show(0:Int)<=0;omega,by show(0:Int)<=1;omega,by simp[pv]⟩,?_⟩
 rintro⟨c,x,out⟩ ⟨i,hx,hi,hlen,hw,hc0,hc1,hpv⟩
 simp only at hx hi hlen hw hc0 hc1 hpv
 subst hx
 have hxl:=ha i
 have hxm:=hb i
 refine condT (λhlt=>?_) (λhge=>?_)
 ·refine cH ha (cH hb (iF ⟨v7 om,by unfold rng;omega,?_,by dsimp only;omega⟩))
  rw[wrap_u64_id (m:=a.getD i 0+b.getD i 0) om om,wrap_u64_id om om,wrap_u32]
  have e32:∀z:Int,z / 2^Int.toNat 32=z / 4294967296:=λ_=>rfl
  rw[e32]
  generalize hd:a.getD i 0+b.getD i 0+c=d
  refine⟨i+1,rfl,by omega,by simp[hlen],hw.append (Words.one om om),by show 0<=d / 4294967296;omega,by show d / 4294967296<=1;omega,?_⟩
  show pv (out++[d % 4294967296]) (i+1)+d / 4294967296*_=_
  rw[rh hlen,Int.pow_succ,pv,pv,Int.add_assoc,mh,<-hd,Int.add_mul,Int.add_mul]
  omega
 ·obtain rfl:i=n:=om
  refine dO hw (by unfold SM;omega) ?_
  have e:val out=val a+val b:=by
   have a1:=eB hw (i:=i) om
   have a2:=eB ha (i:=i) om
   have a3:=eB hb (i:=i) om
   have b2:=oh (l:=a) (i-1) om
   have b3:=oh (l:=b) (i-1) om
   have b4:=oh (l:=a) i om
   have b5:=oh (l:=b) i om
   have c2:=(bB ha (i-1)).2
   have c3:=(bB hb (i-1)).2
   have c4:=(bB hw i).1
   have hi1:i=i-1+1:=om
   have hc:=hpv
   rw[hi1,Int.pow_succ,<-hi1] at hc
   have:=vV hc om om om hc0 hc1 (fo _)
   subst this
   omega
  rw[e]
  exact h
theorem mq {a b:List Int} {Q:List Int->Int->Prop} (ha:Words a) (hb:Words b) (la:SM a) (lb:SM b) (h1:val a<val b->Q [] 3) (h2:val b<=val a->Q (lim (val a-val b)) 0):j_ a b Q:=by
 refine oQ ha hb la lb (condT (λhc=>h1 (kW.1 hc)) (λhc=>?_))
 have hge:val b<=val a:=by have:=mt kW.2 hc;omega
 have h:=h2 hge
 clear h1 h2
 unfold SM at la lb
 refine⟨λy=>∃i:Nat,y.2.1=i/\i<=a.length/\y.2.2.length=i/\Words y.2.2/\0<=y.1/\y.1<=1/\pv y.2.2 i=pv a i-pv b i+y.1*4294967296^i,λy=>a.length-y.2.1.toNat,⟨0,rfl,by omega,rfl,Words.nil,by show(0:Int)<=0;omega,by show(0:Int)<=1;omega,by simp[pv]⟩,?_⟩
 rintro⟨c,x,out⟩ ⟨i,hx,hi,hlen,hw,hb0,hb1,hpv⟩
 simp only at hx hi hlen hw hb0 hb1 hpv
 subst hx
 have hxl:=ha i
 have hxm:=hb i
 obtain⟨q1,q2,q3⟩:=uA (a.getD i 0) (b.getD i 0) c hxl hxm ⟨hb0,hb1⟩
 refine condT (λhlt=>cH ha (cH hb (iF ⟨v7 om,by unfold rng;omega,?_,by dsimp only;omega⟩))) (λhge=>?_)
 ·simp only[wrap_u32]
  generalize IntKind.u64.wrap (IntKind.u64.wrap (a.getD i 0-b.getD i 0)-c)=d at *
  have e63:d / 2^Int.toNat 63=d / 9223372036854775808:=rfl
  refine⟨i+1,rfl,by omega,by simp[hlen],hw.append (Words.one om om),by simpa only[e63] using q2,by simpa only[e63] using q3,?_⟩
  simp only[e63]
  rw[rh hlen,Int.pow_succ,pv,pv,hpv]
  have e:d % 4294967296=a.getD i 0-b.getD i 0-c+4294967296*(d / 9223372036854775808):=om
  rw[e]
  generalize d / 9223372036854775808=d'
  have a1:=Int.add_mul (a.getD i 0-b.getD i 0-c) (4294967296*d') (4294967296^i)
  have a2:=Int.sub_mul (a.getD i 0-b.getD i 0) c (4294967296^i)
  have a3:=Int.sub_mul (a.getD i 0) (b.getD i 0) (4294967296^i)
  have a4:4294967296*d'*4294967296^i=d'*(4294967296^i*4294967296):=by rw[Int.mul_comm 4294967296 d',Int.mul_assoc,Int.mul_comm 4294967296]
  omega
 ·obtain rfl:i=a.length:=om
  refine dO hw (by unfold SM;omega) ?_
  have e:val out=val a-val b:=by
   have a1:=eB hw (i:=a.length) om
   have a2:=cA ha
   have a3:=bB ha a.length
   have a4:=bB hw a.length
   have a5:=bB hb a.length
   have a6:=cA hb
   rcases Nat.lt_or_ge a.length b.length with h | h
   ·have hm1:=pw hb (Nat.le_of_lt h)
    rcases (by omega:c=0\/c=1) with rfl | rfl
    ·have hz:pv b b.length=pv b a.length:=by
      refine ri hb (Nat.le_of_lt h) ?_
      omega
     omega
    ·omega
   ·have hm1:=eB hb h
    rcases (by omega:c=0\/c=1) with rfl | rfl<;>omega
  rw[e]
  exact h
theorem Dq {X C A1 B1 P1 P2:Int} (f1:0<=X) (f2:1*(P1*P2)<=C*(P1*P2)) (h:X+C*(P1*P2)=A1*B1) (a0:0<=A1) (a1:A1<P1) (_b0:0<=B1) (b1:B1<P2) (_p1:0<P1) (p2:0<P2):False:=by
 have h1:A1*B1<=A1*P2:=Int.mul_le_mul_of_nonneg_left om a0
 have h2:A1*P2<P1*P2:=Int.mul_lt_mul_of_pos_right a1 p2
 omega
set_option maxHeartbeats 1000000 in
theorem i3 {a b:List Int} {Q:List Int->Prop} (ha:Words a) (hb:Words b) (la:a.length+b.length<=1099511627775) (h:Q (lim (val a*val b))):fx a b Q:=by
 obtain⟨N,hN⟩:∃N,N=a.length+b.length+1:=⟨_,rfl⟩
 have hNi:(a.length:Int)+(b.length:Int)+1=(N:Int):=om
 have hL:(b.length:Int)+1=((b.length+1:Nat):Int):=om
 unfold fx
 rw[hNi,hL]
 refine⟨by unfold rng;omega,by unfold rng;omega,rB om om,?_⟩
 refine⟨λy=>∃i:Nat,y.1=i/\i<=a.length/\y.2.length=N/\Words y.2/\pv y.2 (i+b.length)=pv a i*pv b b.length/\(∀p,i+b.length<=p->y.2.getD p 0=0),λy=>a.length-y.1.toNat,
  ⟨0,rfl,by omega,by simp[bS],Words.rep _,by rw[uh,qu];simp[pv],λp hp=>by rw[uh,List.getD_eq_getElem?_getD,List.getElem?_replicate];split<;>rfl⟩,?_⟩
 rintro⟨x,out⟩ ⟨i,hx,hi,hlen,hw,hpv,hz⟩
 simp only at hx hi hlen hw hz hpv
 subst hx
 have hxi:=ha i
 refine condT (λhlt=>⟨⟨by omega,hlt⟩,by unfold rng;omega,?_⟩) (λhge=>?_)
 ·have hbl:pv b (b.length+1)=pv b b.length:=oh _ om
  refine⟨λy=>∃k:Nat,y.2.1=k/\k<=b.length+1/\y.2.2.length=N/\Words y.2.2/\(∀p,i+(b.length+1)<=p->y.2.2.getD p 0=0)/\0<=y.1/\y.1<4294967296/\(k=b.length+1->y.1=0)/\
    pv y.2.2 N+y.1*4294967296^(i+k)=pv a i*pv b b.length+a.getD i 0*4294967296^i*pv b k,λy=>b.length+1-y.2.1.toNat,
   ⟨0,rfl,by omega,hlen,hw,λp hp=>hz p om,by show(0:Int)<=0;omega,by show(0:Int)<_;omega,by omega,?_⟩,?_⟩
  ·show pv out N+0*_=_
   rw[nS (j:=i+b.length) N om (λk h1 h2=>hz k h1),hpv];simp[pv]
  clear hpv hz hw hlen h
  rintro⟨c,x1,out2⟩ ⟨k,hx,hk,hlen,hw,hz,hc0,hc1,hck,hpv⟩
  simp only at hx hk hlen hw hz hc0 hc1 hck hpv
  subst hx
  have hy:=hb k
  have ho:=hw (i+k)
  obtain⟨q1,q2⟩:=zk hxi hy
  have eik:(i:Int)+(k:Int)=((i+k:Nat):Int):=om
  refine condT (λhlt2=>⟨b.getD k 0,cH hb rfl,by unfold rng;omega,⟨by omega,by omega⟩,by unfold rng;omega,⟨by omega,by omega⟩,iF ⟨by unfold rng;omega,?_,by dsimp only;omega⟩⟩) (λhge2=>⟨by unfold rng;omega,?_,by dsimp only;omega⟩)
  ·simp only[eik,gz,fV]
   simp (disch:=omega) only[wrap_u64_id,wrap_u32]
   have e32:∀z:Int,z / 2^Int.toNat 32=z / 4294967296:=λ_=>rfl
   simp only[e32]
   generalize hv:a.getD i 0*b.getD k 0+out2.getD (i+k) 0+c=v
   have hnew:pv (out2.set (i+k) (v % 4294967296)) N+v / 4294967296*4294967296^(i+(k+1))=pv a i*pv b b.length+a.getD i 0*4294967296^i*pv b (k+1):=by
    rw[gO om N om,pv,<-Nat.add_assoc,Int.pow_succ,Int.mul_add,<-Int.add_assoc,<-hpv]
    have s1:=mh v (4294967296^(i+k))
    have s2:=Int.sub_mul (v % 4294967296) (out2.getD (i+k) 0) (4294967296^(i+k))
    have s3:v*4294967296^(i+k)=a.getD i 0*4294967296^i*(b.getD k 0*4294967296^k)+out2.getD (i+k) 0*4294967296^(i+k)+c*4294967296^(i+k):=by
     rw[<-hv,Int.add_mul,Int.add_mul,Int.pow_add]
     congr 2
     rw[Int.mul_assoc,Int.mul_assoc,Int.mul_left_comm (b.getD k 0)]
    omega
   refine⟨k+1,rfl,by omega,by simp[hlen],hw.set _ om om,λp hp=>?_,by show 0<=v / 4294967296;omega,by show v / 4294967296<4294967296;omega,λhkb=>?_,hnew⟩
   ·show(out2.set (i+k) _).getD p 0=0
    rw[cF om];exact hz p hp
   ·show v / 4294967296=0
    have:k=b.length:=om
    have hy0:b.getD k 0=0:=pD om
    have ho0:out2.getD (i+k) 0=0\/True:=.inr trivial
    rw[hy0,Int.mul_zero] at hv
    rcases Int.lt_or_le v 4294967296 with h1 | h1
    ·omega
    ·exfalso
     have f1:=(bB (hw.set (i+k) (x:=v % 4294967296) om om) N).1
     have f2:1*(4294967296:Int)^(i+(k+1))<=v / 4294967296*4294967296^(i+(k+1)):=Int.mul_le_mul_of_nonneg_right om (by have:=fo (i+(k+1));omega)
     have f3:=(bB ha (i+1)).2
     have f4:=bB hb b.length
     have f5:pv a i*pv b b.length+a.getD i 0*4294967296^i*pv b (k+1)=pv a (i+1)*pv b b.length:=by
      have:pv b (k+1)=pv b b.length:=oh _ om
      rw[this,pv,Int.add_mul]
     have f7:(4294967296:Int)^(i+(k+1))=4294967296^(i+1)*4294967296^b.length:=by rw[<-Int.pow_add];congr 1;omega
     have f9:=fo (i+1)
     have f10:=fo b.length
     rw[f5,f7] at hnew
     rw[f7] at f2
     have f0:=(bB ha (i+1)).1
     generalize (4294967296:Int)^(i+1)=P1 at *
     generalize (4294967296:Int)^b.length=P2 at *
     generalize pv a (i+1)=A1 at *
     generalize pv b b.length=B1 at *
     exact Dq f1 f2 hnew f0 f3 f4.1 f4.2 f9 f10
  ·obtain rfl:k=b.length+1:=om
   have:=hck rfl
   subst this
   refine⟨i+1,rfl,by omega,hlen,hw,?_,λp hp=>hz p om⟩
   show pv out2 (i+1+b.length)=pv a (i+1)*pv b b.length
   rw[<-nS (j:=i+1+b.length) N om (λk h1 h2=>hz k om),pv,Int.add_mul]
   rw[hbl] at hpv
   omega
 ·obtain rfl:i=a.length:=om
  refine dO hw (by unfold SM;omega) ?_
  have e:val out=val a*val b:=by
   have a1:=eB hw (i:=N) om
   rw[nS (j:=a.length+b.length) N om (λk h1 h2=>hz k h1),hpv] at a1
   have a2:=cA ha
   have a3:=cA hb
   have:((val a*val b:Nat):Int)=(val a:Int)*(val b:Int):=by simp
   have:(val out:Int)=((val a*val b:Nat):Int):=by rw[this,a1,a2,a3]
   omega
  rw[e]
  exact h
end Go.Gg
namespace Go.Gg
theorem uR {a:List Int} {n:Nat} {Q:List Int->Prop} (ha:Words a) (la:a.length<=1099511627775) (hn:n<=32) (h:Q (lim (val a*2^n))):nP a (n:Int) Q:=by
 have hpp:=fI n
 have hs:=po hn
 have hqp:=fI (32-n)
 have hple:(2:Int)^n<=4294967296:=by
  have:(2:Int)^n*1<=2^n*2^(32-n):=Int.mul_le_mul_of_nonneg_left om om
  omega
 refine⟨λy=>∃i:Nat,y.2.1=i/\i<=a.length/\y.2.2.length=i/\Words y.2.2/\0<=y.1/\y.1<2^n/\pv y.2.2 i+y.1*4294967296^i=pv a i*2^n,λy=>a.length-y.2.1.toNat,⟨0,rfl,by omega,rfl,Words.nil,by show(0:Int)<=0;omega,hpp,by simp[pv]⟩,?_⟩
 rintro⟨c,x,out⟩ ⟨i,hx,hi,hlen,hw,hc0,hc1,hpv⟩
 simp only at hx hi hlen hw hc0 hc1 hpv
 subst hx
 have hxi:=ha i
 refine condT (λhlt=>⟨⟨by omega,hlt⟩,⟨by omega,by omega⟩,?_⟩) (λhge=>?_)
 ·rw[gz,Int.toNat_natCast]
  have hy0:0<=a.getD i 0*2^n:=Int.mul_nonneg hxi.1 om
  have hy1:a.getD i 0*2^n<=4294967295*2^n:=Int.mul_le_mul_of_nonneg_right om om
  have hmod:a.getD i 0*2^n % 2^n=0:=Int.mul_emod_left _ _
  have hor:bits .or .u64 c (a.getD i 0*2^n)=a.getD i 0*2^n+c:=xJ n hc0 hc1 hy0 hmod om
  rw[wrap_u64_id hxi.1 om,wrap_u64_id hy0 om,hor]
  refine iF ⟨v7 om,by unfold rng;omega,?_,by dsimp only;omega⟩
  have e32:∀z:Int,z / 2^Int.toNat 32=z / 4294967296:=λ_=>rfl
  rw[e32,wrap_u32]
  generalize hd:a.getD i 0*2^n+c=d
  refine⟨i+1,rfl,by omega,by simp[hlen],hw.append (Words.one om om),by show 0<=d / 4294967296;omega,?_,?_⟩
  ·show d / 4294967296<2^n
   rw[Int.ediv_lt_iff_lt_mul om];omega
  ·show pv (out++[d % 4294967296]) (i+1)+d / 4294967296*_=_
   rw[rh hlen,Int.pow_succ,Int.add_assoc,mh,<-hd,pv,Int.add_mul,Int.add_mul,<-hpv,Int.mul_right_comm]
   omega
 ·obtain rfl:i=a.length:=om
  rw[wrap_u32]
  have hcm:c % 4294967296=c:=om
  rw[hcm]
  refine⟨v7 om,dO (hw.append (Words.one hc0 om)) (by simp[SM];omega) ?_⟩
  have e:val (out++[c])=val a*2^n:=by
   have a1:=eB (hw.append (Words.one hc0 (by omega:c<4294967296))) (i:=a.length+1) (by simp;omega)
   rw[rh hlen,hpv,<-cA ha] at a1
   have:((val a*2^n:Nat):Int)=(val a:Int)*2^n:=by simp
   omega
  rw[e];exact h
theorem xH {a:List Int} {n:Nat} {Q:List Int->Prop} (ha:Words a) (la:SM a) (hn:n<=32) (h:Q (lim (val a / 2^n))):kQ a (n:Int) Q:=by
 unfold SM at la
 have hs:=po hn
 have hpp:=fI n
 have hqp:=fI (32-n)
 unfold kQ
 generalize hp:(2:Int)^n=p at *
 generalize (2:Int)^(32-n)=q at *
 refine⟨λy=>∃i:Nat,y.1=i/\i<=a.length/\y.2.length=i/\Words y.2/\pv y.2 i*p=pv a i-a.getD 0 0 % p+(a.getD i 0 % p)*4294967296^i,λy=>a.length-y.1.toNat,
  ⟨0,rfl,by omega,rfl,Words.nil,by simp[pv];omega⟩,?_⟩
 rintro⟨x,out⟩ ⟨i,hx,hi,hlen,hw,hpv⟩
 simp only at hx hi hlen hw hpv
 subst hx
 have h0:=ha i
 have h1:=ha (i+1)
 have e1:(i:Int)+1=((i+1:Nat):Int):=om
 refine condT (λhlt=>cH ha ⟨by unfold rng;omega,?_⟩) (λhge=>?_)
 ·rw[e1]
  refine cH ha ⟨⟨by omega,by omega⟩,v7 om,by unfold rng;omega,?_,by dsimp only;omega⟩
  have e32:(2:Int)^Int.toNat 32=4294967296:=rfl
  rw[e32,Int.toNat_natCast,hp,wrap_u64_id om om,xJ 32 h0.1 h0.2 om (by show _ % 4294967296=0;omega) om,wrap_u32]
  generalize ha0:a.getD i 0=x0 at *
  generalize ha1:a.getD (i+1) 0=x1 at *
  have hx0:0<=x0 / p:=Int.ediv_nonneg h0.1 om
  have hx0':x0 / p<q:=by rw[Int.ediv_lt_iff_lt_mul hpp,Int.mul_comm,hs];exact h0.2
  have hm0:0<=x1 % p:=Int.emod_nonneg _ om
  have hm1:x1 % p<p:=Int.emod_lt_of_pos _ hpp
  have hdv:(x1*4294967296+x0) / p=x1*q+x0 / p:=by
   rw[<-hs,Int.mul_left_comm,Int.add_comm,Int.add_mul_ediv_left _ _ om,Int.add_comm]
  have hk:(x1*4294967296+x0) / p % 4294967296=(x1 % p)*q+x0 / p:=by
   have d1:x1=p*(x1 / p)+x1 % p:=(Int.mul_ediv_add_emod x1 p).symm
   have d2:x1*q+x0 / p=(x1 % p)*q+x0 / p+4294967296*(x1 / p):=by
    have:x1*q=(p*(x1 / p)+x1 % p)*q:=by rw[<-d1]
    rw[this,Int.add_mul,Int.mul_right_comm,hs];omega
   rw[hdv,d2,Int.add_mul_emod_self_left]
   refine Int.emod_eq_of_lt ?_ ?_
   ·have:=Int.mul_nonneg hm0 (Int.le_of_lt hqp);omega
   ·have:(x1 % p)*q<=(p-1)*q:=Int.mul_le_mul_of_nonneg_right om om
    rw[Int.sub_mul,hs] at this;omega
  rw[hk]
  have hq0:=Int.mul_nonneg hm0 (Int.le_of_lt hqp)
  have hq1:(x1 % p)*q<=(p-1)*q:=Int.mul_le_mul_of_nonneg_right om om
  rw[Int.sub_mul,hs] at hq1
  refine⟨i+1,rfl,by omega,by simp[hlen],hw.append (Words.one om om),?_⟩
  show pv (out++[x1 % p*q+x0 / p]) (i+1)*p=pv a (i+1)-_+_
  rw[rh hlen,pv,Int.add_mul,hpv,ha0,ha1,Int.pow_succ]
  have d0:x0=p*(x0 / p)+x0 % p:=(Int.mul_ediv_add_emod x0 p).symm
  have s1:(x1 % p*q+x0 / p)*4294967296^i*p=x1 % p*(4294967296^i*4294967296)+(p*(x0 / p))*4294967296^i:=by
   rw[Int.add_mul,Int.add_mul]
   congr 1
   ·rw[<-hs,Int.mul_assoc,Int.mul_assoc,Int.mul_left_comm q,Int.mul_comm q p]
   ·rw[Int.mul_right_comm,Int.mul_comm (x0 / p)]
  have s2:x0*4294967296^i=(p*(x0 / p))*4294967296^i+x0 % p*4294967296^i:=by
   rw[<-Int.add_mul,<-d0]
  omega
 ·obtain rfl:i=a.length:=om
  refine dO hw (by unfold SM;omega) ?_
  have a1:=cA hw
  have a2:=cA ha
  rw[hlen] at a1
  rw[pD (Nat.le_refl a.length),Int.zero_emod,Int.zero_mul,<-a2,<-a1] at hpv
  have hr0:0<=a.getD 0 0 % p:=Int.emod_nonneg _ om
  have hr1:a.getD 0 0 % p<p:=Int.emod_lt_of_pos _ hpp
  have e:(val a:Int) / p=val out:=by
   have:(val a:Int)=p*val out+a.getD 0 0 % p:=by rw[Int.mul_comm];omega
   rw[this,Int.add_comm,Int.add_mul_ediv_left _ _ om,Int.ediv_eq_zero_of_lt hr0 hr1];omega
  have e2:((val a / 2^n:Nat):Int)=(val a:Int) / p:=by rw[<-hp];simp
  have:val out=val a / 2^n:=om
  rw[this];exact h
theorem Fl {y:Int} (h0:0<=y) (h1:y<4294967296):bits .and .u32 y 1=y % 2:=by
 obtain⟨m,rfl⟩:=Int.eq_ofNat_of_zero_le h0
 show IntKind.u32.wrap (((BitVec.ofInt 32 (m:Int)) &&& (BitVec.ofInt 32 1)).toNat:Int)=_
 rw[wrap_u32,BitVec.toNat_and,BitVec.toNat_ofInt,BitVec.toNat_ofInt]
 have e1:((m:Int) % ((2^32:Nat):Int)).toNat=m:=om
 have e2:((1:Int) % ((2^32:Nat):Int)).toNat=1:=om
 rw[e1,e2,Nat.and_one_is_mod]
 omega
theorem yh (m i:Nat):m &&& 2^i=if m.testBit i then 2^i else 0:=by
 refine Nat.eq_of_testBit_eq (λj=>?_)
 rw[Nat.testBit_and,Nat.testBit_two_pow]
 by_cases h:i=j
 ·subst h
  cases hb:m.testBit i<;>simp
 ·split<;>simp[h]
theorem Fk {y:Int} (h0:0<=y) (h1:y<4294967296):bits .and .u32 y 2147483648=if y<2147483648 then 0 else 2147483648:=by
 obtain⟨m,rfl⟩:=Int.eq_ofNat_of_zero_le h0
 show IntKind.u32.wrap (((BitVec.ofInt 32 (m:Int)) &&& (BitVec.ofInt 32 2147483648)).toNat:Int)=_
 rw[wrap_u32,BitVec.toNat_and,BitVec.toNat_ofInt,BitVec.toNat_ofInt]
 have e1:((m:Int) % ((2^32:Nat):Int)).toNat=m:=om
 have e2:((2147483648:Int) % ((2^32:Nat):Int)).toNat=2^31:=by decide
 rw[e1,e2,yh]
 have:m.testBit 31=decide (2147483648<=m):=by
  rw[Nat.testBit_eq_decide_div_mod_eq]
  have e:m / 2^31=m / 2147483648:=rfl
  rw[e]
  by_cases hm:2147483648<=m
  ·have:m / 2147483648=1:=om
   rw[this];simp[hm]
  ·have:m / 2147483648=0:=om
   rw[this];simp[hm]
 rw[this]
 by_cases hm:2147483648<=m
 ·have h2:¬((m:Int)<2147483648):=om
  simp only[hm,decide_true,if_true]
  show _=if (m:Int)<2147483648 then _ else _
  rw[if_neg h2];rfl
 ·have h2:(m:Int)<2147483648:=om
  simp only[hm,decide_false,Bool.false_eq_true,if_false]
  show _=if (m:Int)<2147483648 then _ else _
  rw[if_pos h2];rfl
theorem D2 {x p:Nat} (h:x<2^p):cd (x+2^p)=p+1:=by
 refine s9 ?_ (λ_=>?_)
 ·rw[Nat.pow_succ];omega
 ·rw[Nat.add_sub_cancel];omega
theorem nQ {a:List Int} {Q:Int->Prop} (ha:Words a) (la:SM a) (h:Q (cd (val a))):ji a Q:=by
 unfold SM at la
 refine⟨λy=>∃i:Nat,y.2=i/\i<=a.length/\y.1=((cd (pv a i).toNat:Nat):Int),λy=>a.length-y.2.toNat,⟨0,rfl,by omega,rfl⟩,?_⟩
 rintro⟨n,x⟩ ⟨i,hx,hi,hn⟩
 simp only at hx hi hn
 subst hx hn
 have hxi:=ha i
 obtain⟨w,hw⟩:∃w:Nat,a.getD i 0=w:=⟨(a.getD i 0).toNat,by omega⟩
 obtain⟨b1,b2⟩:=bB ha i
 obtain⟨A,hA⟩:∃A:Nat,pv a i=A:=⟨(pv a i).toNat,by omega⟩
 have hW:(4294967296:Int)^i=((2^(32*i):Nat):Int):=by rw[Nat.pow_mul];simp
 refine condT (λhlt=>⟨⟨by omega,hlt⟩,?_⟩) (λhge=>?_)
 ·refine⟨λy=>∃k:Nat,y.2=k/\k<=32/\y.1=((cd (A+w % 2^k*2^(32*i)):Nat):Int),λy=>32-y.2.toNat,⟨0,rfl,by omega,?_⟩,?_⟩
  ·show((cd (pv a i).toNat:Nat):Int)=_
   rw[hA];simp[Nat.mod_one]
  rintro⟨n,x⟩ ⟨k,hx,hk,hn⟩
  simp only at hx hk hn
  subst hx hn
  refine condT (λhk2=>⟨⟨by omega,by omega⟩,?_⟩) (λhk2=>⟨by unfold rng;omega,⟨i+1,rfl,by omega,?_⟩,by dsimp only;omega⟩)
  ·have hpk:0<2^k:=Nat.pow_pos om
   have ed:a.getD i 0 / 2^k=((w / 2^k:Nat):Int):=by rw[hw];simp
   have hdle:w / 2^k<=w:=Nat.div_le_self _ _
   have hsucc:w % 2^(k+1)=w % 2^k+2^k*(w / 2^k % 2):=Nat.mod_pow_succ
   generalize w / 2^k=z at *
   rw[gz,Int.toNat_natCast,ed,Fl om om]
   refine bP (λhe=>⟨by unfold rng;omega,by unfold rng;omega,by unfold rng;omega,by unfold rng;omega,⟨k+1,rfl,by omega,?_⟩,by dsimp only;omega⟩) (λhe=>⟨by unfold rng;omega,⟨k+1,rfl,by omega,?_⟩,by dsimp only;omega⟩)
   ·have h2:z % 2=1:=om
    show 32*(i:Int)+k+1=_
    rw[hsucc,h2,Nat.mul_one]
    have e:A+(w % 2^k+2^k)*2^(32*i)=(A+w % 2^k*2^(32*i))+2^(32*i+k):=by
     rw[Nat.add_mul,Nat.pow_add,Nat.mul_comm (2^(32*i)) (2^k)];omega
    have hlt2:A+w % 2^k*2^(32*i)<2^(32*i+k):=by
     have h3:w % 2^k<2^k:=Nat.mod_lt _ hpk
     have h4:(w % 2^k+1)*2^(32*i)<=2^k*2^(32*i):=Nat.mul_le_mul_right _ h3
     rw[Nat.pow_add,Nat.mul_comm (2^(32*i)) (2^k)]
     rw[Nat.add_mul] at h4
     omega
    rw[e,D2 hlt2];omega
   ·have h2:z % 2=0:=om
    show((cd (A+w % 2^k*2^(32*i)):Nat):Int)=_
    rw[hsucc,h2,Nat.mul_zero,Nat.add_zero]
  ·obtain rfl:k=32:=om
   show((cd (A+w % 2^32*2^(32*i)):Nat):Int)=((cd (pv a (i+1)).toNat:Nat):Int)
   have hm:w % 2^32=w:=Nat.mod_eq_of_lt om
   have:(pv a (i+1)).toNat=A+w*2^(32*i):=by
    have:pv a (i+1)=((A+w*2^(32*i):Nat):Int):=by rw[pv,hA,hw,hW,Int.natCast_add,Int.natCast_mul]
    omega
   rw[hm,this]
 ·obtain rfl:i=a.length:=om
  exact h
end Go.Gg
namespace Go.Gg
theorem Ev {s:Nat} (h:s<=31):rng ((s:Int)+1):=by unfold rng;omega
theorem Fb {s:Nat} (h:s<=31):32-((s:Int)+1).toNat<32-(s:Int).toNat:=om
theorem ya {m n:Nat}:0<n8 m n↔n<m:=by
 unfold n8
 by_cases h:m<n
 ·simp only[h,if_true];omega
 ·rw[if_neg h];split<;>omega
theorem wL {R k:Nat} (h:R<4294967296^k):(R:Int)=pv (lim R) k:=by
 have h1:=iT h
 have h2:=eB (aM R) h1
 rw[bb] at h2
 exact h2
theorem Bj {g:Nat} (h:g<4294967296):val [(g:Int)]=g:=by
 rw[j6 (Words.one om om),nG];omega
set_option maxHeartbeats 2000000 in
theorem oP {a b:List Int} {Q:List Int->List Int->Int->Prop} (ha:Words a) (hb:Words b) (la:a.length<=1099511627760) (lb:b.length<=1099511627760)
  (h0:val b=0->Q [] [] 8) (h:val b≠0->Q (lim (val a / val b)) (lim (val a % val b)) 0):ke a b Q:=by
 refine dO hb (by unfold SM;omega) ?_
 have b2:=dJ hb
 have w2:=aM (val b)
 have v2:=bb (val b)
 refine bP (λhc=>?_) (λhc=>?_)
 ·have:(lim (val b)).length=0:=om
  have:lim (val b)=[]:=List.eq_nil_of_length_eq_zero this
  rw[this,nG] at v2
  exact h0 v2.symm
 have hB:val b≠0:=by intro hh;rw[hh,dt] at hc;exact hc rfl
 replace h:=h hB
 clear h0
 obtain⟨m,hm⟩:∃m,(lim (val b)).length=m+1:=⟨(lim (val b)).length-1,by omega⟩
 have htop:=xN hB
 have hbd:=cA w2
 rw[v2] at hbd
 generalize hA:val a=A at *
 generalize hBv:val b=B at *
 generalize hlb:lim B=bl at *
 rw[hm] at htop hbd
 rw[Nat.add_sub_cancel] at htop
 have hwt:=w2 m
 have hml:(bl.length:Int)-1=(m:Int):=om
 obtain⟨tp,htp⟩:∃x:Nat,bl.getD m 0=x:=⟨(bl.getD m 0).toNat,by omega⟩
 rw[htp] at htop hwt
 have htp0:tp≠0:=om
 have c1:=pH (n:=tp)
 have c2:=n_ htp0
 have c3:=pI (x:=tp) om
 have c4:cd tp≠0:=by unfold cd;rw[if_neg htp0];omega
 have hPm:=fo m
 refine⟨λy=>∃s:Nat,y=s/\s<=32-cd tp,λy=>32-y.toNat,⟨0,rfl,by omega⟩,?_⟩
 rintro _ ⟨s,rfl,hs⟩
 have hps:=fI s
 have hsle:(2:Int)^(cd tp)*2^s<=4294967296:=by
  have e1:(2:Int)^(cd tp+s)*2^(32-(cd tp+s))=4294967296:=jI (c:=32) om
  rw[<-Int.pow_add]
  have:=fI (32-(cd tp+s))
  have h3:=fI (cd tp+s)
  have:(2:Int)^(cd tp+s)*1<=2^(cd tp+s)*2^(32-(cd tp+s)):=Int.mul_le_mul_of_nonneg_left om om
  omega
 have f1:(tp:Int)+1<=2^(cd tp):=by exact_mod_cast c1
 have g1:((tp:Int)+1)*2^s<=2^(cd tp)*2^s:=Int.mul_le_mul_of_nonneg_right f1 om
 have g1':((tp:Int)+1)*2^s=tp*2^s+2^s:=by rw[Int.add_mul];omega
 have ht0:0<=(tp:Int)*2^s:=Int.mul_nonneg om om
 have hw32:(tp:Int)*2^s % 4294967296=tp*2^s:=Int.emod_eq_of_lt ht0 om
 rw[hml,gz,htp,Int.toNat_natCast,wrap_u32,hw32,Fk ht0 om]
 have hs31:s<=31:=om
 have hr1:rng ((s:Int)+1):=Ev hs31
 have hr2:32-((s:Int)+1).toNat<32-((s:Int)).toNat:=Fb hs31
 refine⟨by unfold rng;omega,⟨by omega,by omega⟩,⟨by omega,by omega⟩,bP (λhe=>⟨hr1,⟨s+1,rfl,?_⟩,hr2⟩) (λhe=>?_)⟩
 ·
  have hlt:(tp:Int)*2^s<2147483648:=by
   rcases Int.lt_or_le ((tp:Int)*2^s) 2147483648 with hh | hh
   ·exact hh
   ·rw[if_neg om] at he;cases he
  rcases Nat.lt_or_ge s (32-cd tp) with hh | hh
  ·omega
  ·exfalso
   have hse:s=32-cd tp:=om
   have e2:(2:Int)^(cd tp-1)*2^s=2147483648:=jI (c:=31) om
   have f2:(2:Int)^(cd tp-1)<=tp:=by exact_mod_cast c2
   have g2:(2:Int)^(cd tp-1)*2^s<=tp*2^s:=Int.mul_le_mul_of_nonneg_right f2 om
   omega
 have hge31:2147483648<=(tp:Int)*2^s:=by
  rcases Int.lt_or_le ((tp:Int)*2^s) 2147483648 with hh | hh
  ·rw[if_pos hh] at he;exact absurd rfl he
  ·exact hh
 clear he
 refine uR ha om om (uR w2 om om ?_)
 rw[hA,v2]
 obtain⟨A2,hA2⟩:∃A2,A2=A*2^s:=⟨_,rfl⟩
 obtain⟨B2,hB2⟩:∃B2,B2=B*2^s:=⟨_,rfl⟩
 rw[<-hA2,<-hB2]
 have hB2i:(B2:Int)=(B:Int)*2^s:=by rw[hB2];simp
 have hbm:=bB w2 m
 have hbd2:(B:Int)=pv bl m+tp*4294967296^m:=by rw[hbd,pv,htp]
 have ew1:(4294967296:Int)^(m+1)=4294967296^m*4294967296:=Int.pow_succ ..
 have hB2lt:(B2:Int)<4294967296^(m+1):=by
  have k1:(B:Int)+1<=(tp+1)*4294967296^m:=by rw[Int.add_mul];omega
  have k2:((B:Int)+1)*2^s<=((tp+1)*4294967296^m)*2^s:=Int.mul_le_mul_of_nonneg_right k1 om
  have k4:(((tp:Int)+1)*2^s)*4294967296^m<=4294967296*4294967296^m:=Int.mul_le_mul_of_nonneg_right om om
  rw[Int.mul_right_comm] at k2
  rw[Int.add_mul] at k2
  rw[hB2i,ew1]
  omega
 have hB2ge:2147483648*4294967296^m<=(B2:Int):=by
  have k1:(tp:Int)*4294967296^m<=B:=om
  have k2:(tp:Int)*4294967296^m*2^s<=B*2^s:=Int.mul_le_mul_of_nonneg_right k1 om
  have k3:2147483648*4294967296^m<=(tp:Int)*2^s*4294967296^m:=Int.mul_le_mul_of_nonneg_right hge31 om
  rw[Int.mul_right_comm] at k2
  omega
 have hB20:0<B2:=om
 have hB2N:B2<4294967296^(m+1):=by
  have:((4294967296^(m+1):Nat):Int)=(4294967296:Int)^(m+1):=by simp
  omega
 have wA:=aM A2
 have vA:=bb A2
 have wB:=aM B2
 have hlB:(lim B2).length<=m+1:=iT hB2N
 have hLA:(lim A2).length<=1099511627762:=by
  have k1:A<4294967296^a.length:=by rw[<-hA];exact ql ha
  have k2:A*2^s<4294967296^(a.length+1):=by
   rw[Nat.pow_succ]
   have k3:2^s<=2^32:=Nat.pow_le_pow_right om om
   exact Nat.mul_lt_mul_of_lt_of_le k1 k3 om
  rw[hA2]
  have:=iT k2
  omega
 have hBtop:=wL hB2N
 generalize hlA2:lim A2=al at *
 generalize hlB2:lim B2=bl2 at *
 obtain⟨L,hL⟩:∃L,al.length=L:=⟨_,rfl⟩
 have hApv:(A2:Int)=pv al L:=by rw[<-vA,<-hL];exact cA wA
 obtain⟨r0,hr0⟩:∃r0,r0=[]++bH al (max 0 ((al.length:Int)-(bl.length:Int)+1)) (al.length:Int):=⟨_,rfl⟩
 obtain⟨J,hJ⟩:∃J,J=L-m:=⟨_,rfl⟩
 have hr0d:r0=al.drop J:=by
  rw[hr0]
  show []++(al.drop _).take _=_
  have e:(max 0 ((al.length:Int)-(bl.length:Int)+1)).toNat=J:=om
  rw[e,List.nil_append,Int.toNat_natCast]
  exact List.take_of_length_le (by simp)
 rw[<-hr0]
 refine⟨rB om om,by unfold rng;omega,by unfold rng;omega,⟨by omega,by omega,by omega⟩,?_,by unfold rng;omega,?_⟩
 ·rw[hr0d];simp;omega
 have hr0w:Words r0:=by rw[hr0d];exact wA.drop J
 have hr0l:r0.length=L-J:=by rw[hr0d,List.length_drop,hL]
 have hsplit:(A2:Int)=pv al J+val r0*4294967296^J:=by
  have k0:L=J+(L-J):=om
  rw[hApv,k0,nl,cA hr0w,hr0l,hr0d]
 have hr0B:val r0<B2:=by
  have k1:=ql hr0w
  have k2:4294967296^r0.length<=4294967296^m:=Nat.pow_le_pow_right om om
  have k3:((4294967296^m:Nat):Int)=(4294967296:Int)^m:=by simp
  omega
 refine⟨λy=>∃j:Nat,(y.2.1=(j:Int)-1\/(j=0/\y.2.1<0))/\j<=L/\Words y.1/\y.1.length<=m+1/\val y.1<B2/\y.2.2.length=L/\Words y.2.2/\(∀k,k<j->y.2.2.getD k 0=0)/\(A2:Int)=pv y.2.2 L*B2+val y.1*4294967296^j+pv al j,
  λy=>(y.2.1+1).toNat,⟨J,?_,by omega,hr0w,by show r0.length<=_;omega,hr0B,by simp[bS,hL],Words.rep _,λk hk=>?_,?_⟩,?_⟩
 ·show(al.length:Int)-(bl.length:Int)=(J:Int)-1\/J=0/\(al.length:Int)-(bl.length:Int)<0
  rcases Nat.lt_or_ge L (m+1) with hh | hh
  ·right;omega
  ·left;omega
 ·show(List.replicate ((al.length:Int)).toNat (0:Int)).getD k 0=0
  rw[List.getD_eq_getElem?_getD,List.getElem?_replicate];split<;>rfl
 ·show(A2:Int)=pv (List.replicate ((al.length:Int)).toNat (0:Int)) L*B2+val r0*4294967296^J+pv al J
  rw[qu];omega
 clear hsplit hr0B hr0w hr0l hr0 hr0d
 clear r0
 rintro⟨r,x,q⟩ ⟨j,hx,hj,hrw,hrl,hrB,hql,hqw,hqz,hsum⟩
 simp only at hx hj hrw hrl hrB hql hqw hqz hsum
 refine condT (λhc=>?_) (λhc=>?_)
 ·obtain⟨i,rfl⟩:∃i,j=i+1:=⟨j-1,by omega⟩
  obtain rfl:x=(i:Int):=om
  have hai:=wA i
  rw[gz]
  have hw1:Words ([al.getD i 0]++r):=(Words.one hai.1 hai.2).append hrw
  refine⟨⟨by omega,by omega⟩,by simp;omega,dO hw1 (by simp[SM];omega) ?_⟩
  obtain⟨R,hRd⟩:∃R,R=val ([al.getD i 0]++r):=⟨_,rfl⟩
  rw[<-hRd]
  have hRv:(R:Int)=al.getD i 0+4294967296*val r:=by
   rw[hRd]
   have:val ([al.getD i 0]++r)=(al.getD i 0).toNat+4294967296*val r:=j6 hw1
   rw[this];omega
  have hRB:R<B2*4294967296:=om
  have hRn:R<4294967296^(m+2):=by
   have k1:B2*4294967296<4294967296^(m+1)*4294967296:=Nat.mul_lt_mul_of_pos_right hB2N om
   have k2:4294967296^(m+2)=4294967296^(m+1)*4294967296:=Nat.pow_succ ..
   omega
  have hRp:=wL hRn
  have wR:=aM R
  have hlR:(lim R).length<=m+2:=iT hRn
  have vR:=bb R
  have hmb:(bl.length:Int)=((m+1:Nat):Int):=om
  rw[hmb]
  refine cH wR ⟨by unfold rng;omega,cH wR ⟨by unfold rng;omega,cH wB ?_⟩⟩
  have h1:=wR (m+1)
  have h2:=wR m
  have h3:=wB m
  have hBt:(B2:Int)=pv bl2 m+bl2.getD m 0*4294967296^m:=by rw[hBtop,pv]
  have hb2m:=bB wB m
  have hr4:0<bl2.getD m 0:=by
   rcases Int.lt_or_le 0 (bl2.getD m 0) with hh | hh
   ·exact hh
   ·have:bl2.getD m 0=0:=om
    rw[this] at hBt;omega
  have e32:(2:Int)^Int.toNat 32=4294967296:=rfl
  rw[e32,wrap_u64_id (m:=(lim R).getD (m+1) 0*4294967296) om om,vp 32 h2.1 h2.2 om (by show _ % 4294967296=0;omega) om]
  generalize hhead:(lim R).getD (m+1) 0*4294967296+(lim R).getD m 0=head
  have hhead0:0<=head:=om
  have hq0:0<=head / bl2.getD m 0:=Int.ediv_nonneg hhead0 om
  have hq1:head / bl2.getD m 0<=head:=Int.ediv_le_self _ hhead0
  rw[Int.tdiv_eq_ediv_of_nonneg hhead0,wrap_u64_id hq0 om]
  refine⟨by omega,iF ?_⟩
  obtain⟨g0,hg0⟩:∃g0:Nat,min (head / bl2.getD m 0) 4294967295=(g0:Int):=⟨(min (head / bl2.getD m 0) 4294967295).toNat,by omega⟩
  have hg0W:g0<4294967296:=om
  have hU:R<(g0+1)*B2:=by
   by_cases hcase:head / bl2.getD m 0<=4294967295
   ·have hge:head / bl2.getD m 0=g0:=om
    have k1:head<((g0:Int)+1)*bl2.getD m 0:=by
     have d1:head=bl2.getD m 0*(head / bl2.getD m 0)+head % bl2.getD m 0:=(Int.mul_ediv_add_emod head _).symm
     have d2:head % bl2.getD m 0<bl2.getD m 0:=Int.emod_lt_of_pos _ hr4
     rw[hge] at d1
     rw[Int.add_mul,Int.mul_comm];omega
    have k2:(head+1)*4294967296^m<=(((g0:Int)+1)*bl2.getD m 0)*4294967296^m:=Int.mul_le_mul_of_nonneg_right om om
    have k3:(R:Int)=pv (lim R) m+head*4294967296^m:=by
     rw[hRp,pv,pv,ew1,<-hhead,Int.add_mul,Int.mul_assoc ((lim R).getD (m+1) 0),Int.mul_comm 4294967296];omega
    have k4:=(bB wR m).2
    have k5:((g0:Int)+1)*B2=((g0:Int)+1)*pv bl2 m+(((g0:Int)+1)*bl2.getD m 0)*4294967296^m:=by rw[hBt,Int.mul_add,Int.mul_assoc]
    have k6:0<=((g0:Int)+1)*pv bl2 m:=Int.mul_nonneg om hb2m.1
    have k7:(((g0+1)*B2:Nat):Int)=((g0:Int)+1)*B2:=by simp
    rw[Int.add_mul] at k2
    omega
   ·have:g0=4294967295:=om
    subst this
    omega
  rw[hg0,wrap_u32]
  have hg0m:(g0:Int) % 4294967296=g0:=om
  rw[hg0m]
  refine i3 wB (Words.one om om) (by simp;omega) ?_
  have vB:val bl2=B2:=by rw[<-hlB2];exact bb B2
  rw[Bj hg0W,vB]
  refine⟨λy=>∃g:Nat,y=((g:Int),lim (B2*g))/\g<4294967296/\R<(g+1)*B2,λy=>y.1.toNat,⟨g0,rfl,hg0W,hU⟩,?_⟩
  rintro _ ⟨g,rfl,hgW,hgU⟩
  have wP:=aM (B2*g)
  have vP:=bb (B2*g)
  have hPl:(lim (B2*g)).length<=m+2:=by
   refine iT ?_
   rw[Nat.pow_succ]
   exact Nat.mul_lt_mul_of_lt_of_le hB2N om om
  refine oQ wP wR (by unfold SM;omega) (by unfold SM;omega) ?_
  rw[vP,vR]
  refine condT (λhgt=>?_) (λhle=>?_)
  ·have hgt':=ya.1 hgt
   have hg1:1<=g:=by
    rcases Nat.eq_zero_or_pos g with hh | hh
    ·subst hh;simp at hgt'
    ·exact hh
   have hmul:B2*(g-1)=B2*g-B2:=by rw[Nat.mul_sub,Nat.mul_one]
   have hBle:B2<=B2*g:=Nat.le_mul_of_pos_right _ hg1
   refine mq wP wB (by unfold SM;omega) (by unfold SM;omega) (λhh=>?_) (λ_=>?_)
   ·rw[vP,vB] at hh;omega
   ·rw[vP,vB,wrap_u64_id (m:=(g:Int)-1) om om,<-hmul]
    refine⟨⟨g-1,?_,by omega,?_⟩,by dsimp only;omega⟩
    ·have:(g:Int)-1=((g-1:Nat):Int):=om
     rw[this]
    ·have:g-1+1=g:=om
     rw[this,Nat.mul_comm];exact hgt'
  ·have hle':B2*g<=R:=by
    rcases Nat.lt_or_ge R (B2*g) with hh | hh
    ·exact absurd (ya.2 hh) hle
    ·exact hh
   refine mq wR wP (by unfold SM;omega) (by unfold SM;omega) (λhh=>?_) (λ_=>?_)
   ·rw[vP,vR] at hh;omega
   ·rw[vP,vR,wrap_u32,fV]
    have hgm:(g:Int) % 4294967296=g:=om
    rw[hgm]
    have hRlt:R-B2*g<B2:=by rw[Nat.add_mul,Nat.mul_comm g] at hgU;omega
    have hqil:i<q.length:=om
    refine⟨⟨by omega,by omega⟩,by unfold rng;omega,⟨i,.inl rfl,by omega,aM _,?_,?_,by simp[hql],hqw.set _ om om,λk hk=>?_,?_⟩,by dsimp only;omega⟩
    ·show(lim (R-B2*g)).length<=m+1
     exact iT om
    ·show val (lim (R-B2*g))<B2
     rw[bb];exact hRlt
    ·show(q.set i _).getD k 0=0
     rw[cF om];exact hqz k om
    ·show(A2:Int)=pv (q.set i (g:Int)) L*B2+val (lim (R-B2*g))*4294967296^i+pv al i
     rw[bb,gO hqil L om,hqz i om,Int.sub_zero,hsum,Int.add_mul,pv,Int.pow_succ]
     have k1:((R-B2*g:Nat):Int)=(R:Int)-B2*g:=by rw[Int.natCast_sub hle'];simp
     have k2:((R:Int)-B2*g)*4294967296^i=R*4294967296^i-g*4294967296^i*B2:=by
      generalize (4294967296:Int)^i=z
      grind
     have k3:(R:Int)*4294967296^i=al.getD i 0*4294967296^i+val r*(4294967296^i*4294967296):=by
      rw[hRv,Int.add_mul,Int.mul_comm 4294967296 (val r:Int),Int.mul_assoc,Int.mul_comm 4294967296]
     rw[k1,k2,k3]
     omega
 ·obtain rfl:j=0:=om
  have hq1:=cA hqw
  rw[hql] at hq1
  simp only[pv,Int.pow_zero,Int.mul_one,Int.add_zero] at hsum
  rw[<-hq1] at hsum
  have hsumN:A2=val q*B2+val r:=by
   have:((A2:Nat):Int)=((val q*B2+val r:Nat):Int):=by rw[Int.natCast_add,Int.natCast_mul];exact hsum
   omega
  have hps':0<2^s:=Nat.pow_pos om
  have hdiv:A / B=val q:=by
   have k1:A*2^s / (B*2^s)=A / B:=Nat.mul_div_mul_right _ _ hps'
   rw[<-k1,<-hA2,<-hB2,hsumN,Nat.add_comm,Nat.add_mul_div_right _ _ hB20,Nat.div_eq_of_lt hrB];omega
  have hmod:A % B=val r / 2^s:=by
   have k1:A*2^s % (B*2^s)=A % B*2^s:=Nat.mul_mod_mul_right _ _ _
   rw[<-hA2,<-hB2,hsumN,Nat.add_comm,Nat.add_mul_mod_self_right,Nat.mod_eq_of_lt hrB] at k1
   rw[k1,Nat.mul_div_cancel _ hps']
  refine dO hqw (by unfold SM;omega) (xH hrw (by unfold SM;omega) om ?_)
  rw[<-hmod,<-hdiv]
  exact h
theorem tB {a b:List Int} {Q:List Int->Prop} (ha:Words a) (hb:Words b) (la:a.length<=1099511627760) (lb:b.length<=1099511627760) (h:Q (lim (Nat.gcd (val a) (val b)))):mr a b Q:=by
 refine dO ha (by unfold SM;omega) (dO hb (by unfold SM;omega) ?_)
 have b1:=dJ ha
 have b2:=dJ hb
 refine⟨λy=>∃m n:Nat,y=(lim m,lim n)/\(lim m).length<=1099511627760/\(lim n).length<=1099511627760/\Nat.gcd m n=Nat.gcd (val a) (val b),λy=>val y.2,⟨_,_,rfl,by omega,by omega,rfl⟩,?_⟩
 rintro _ ⟨m,n,rfl,hm,hn,hg⟩
 refine condT (λhc=>?_) (λhc=>?_)
 ·have hn0:n≠0:=by rintro rfl;rw[dt] at hc;simp at hc
  refine oP (aM m) (aM n) hm hn (λh0=>absurd (by rw[bb] at h0;exact h0) hn0) (λ_=>?_)
  rw[bb,bb]
  have hlt:=Nat.mod_lt m (Nat.pos_of_ne_zero hn0)
  refine⟨⟨n,m % n,rfl,hn,Nat.le_trans (cV (Nat.le_of_lt hlt)) hn,?_⟩,?_⟩
  ·rw[<-hg,Nat.gcd_comm n,<-Nat.gcd_rec,Nat.gcd_comm]
  ·show val (lim (m % n))<val (lim n)
   rw[bb,bb];exact hlt
 ·have hn0:n=0:=by
   rcases Nat.eq_zero_or_pos n with h0 | h0
   ·exact h0
   ·rw[f_ h0] at hc;simp at hc
  subst hn0
  rw[Nat.gcd_zero_right] at hg
  rw[<-hg] at h
  exact h
end Go.Gg
namespace Go.Gg
theorem dg {σ:Type} {n:Nat} (J:Nat->σ->Prop) (ix:σ->Int) (c:Int) (hix:∀i y,J i y->ix y=i+c) {x0:σ} {body:σ->(σ->Prop)->Prop} (h0:J 0 x0)
  (hs:∀i y (next:σ->Prop),i<n->J i y->(∀z,J (i+1) z->next z)->body y next) (he:∀y (next:σ->Prop),J n y->body y next):bj x0 body:=by
 refine⟨λy=>∃i,i<=n/\J i y,λy=>n-(ix y-c).toNat,⟨0,Nat.zero_le _,h0⟩,?_⟩
 rintro y ⟨i,hi,hJ⟩
 rcases Nat.lt_or_ge i n with h | h
 ·refine hs i y _ h hJ λz hz=>⟨⟨i+1,h,hz⟩,?_⟩
  have h1:=hix i y hJ
  have h2:=hix (i+1) z hz
  dsimp only
  rw[h1,h2]
  omega
 ·obtain rfl:i=n:=om
  exact he y _ hJ
theorem dc {σ:Type} {n:Nat} (f:Nat->σ) (ix:σ->Int) (c:Int) (hix:∀i,ix (f i)=i+c) {x0:σ} {body:σ->(σ->Prop)->Prop} (h0:x0=f 0)
  (hs:∀i (next:σ->Prop),i<n->next (f (i+1))->body (f i) next) (he:∀(next:σ->Prop),body (f n) next):bj x0 body:=
 dg (λi y=>y=f i) ix c (λi y h=>by rw[h];exact hix i) h0 (λi y next hi hy hn=>hy▸hs i next hi (hn _ rfl)) (λy next hy=>hy▸he next)
theorem jC {n:Nat} (P:Nat->Prop) {E:Prop} {st:Int->(Int->Prop)->Prop} (hn:n<=9223372036854775807)
  (hs:∀(i:Nat) (next:Int->Prop),i<n->(∀j,j<i->¬P j)->(¬P i->rng ((i:Int)+1)/\next ((i:Int)+1))->st (i:Int) next)
  (he:(∀j,j<n->¬P j)->E):bj (σ:=Int) 0 (λx next=>an (decide (x<(n:Int))) (st x next) E):=by
 refine dg (n:=n) (λi y=>y=(i:Int)/\∀j,j<i->¬P j) (λy=>y) 0 (λi y h=>by rw[h.1,Int.add_zero]) ⟨rfl,λj hj=>absurd hj om⟩ ?_ ?_
 ·rintro i _ next hi ⟨rfl,hI⟩ hn2
  refine condT (λhc=>hs i next hi hI λhP=>⟨by unfold rng;omega,hn2 _ ⟨by omega,λj hj=>?_⟩⟩) (λhc=>absurd (show(i:Int)<n by omega) hc)
  rcases Nat.lt_or_ge j i with h1 | h1
  ·exact hI j h1
  ·obtain rfl:j=i:=om
   exact hP
 ·rintro _ next ⟨rfl,hI⟩
  exact condT (λhc=>absurd hc om) (λ_=>he hI)
def jM (g:Nat->Int):Nat->Int
 | 0=>0
 | n+1=>if jM g n=0 then g n else jM g n
theorem cp {g:Nat->Int}:∀ {n:Nat},jM g n=0↔∀i,i<n->g i=0
 | 0=>⟨λ_ i hi=>absurd hi om,λ_=>rfl⟩
 | n+1=>by
  rw[jM]
  constructor
  ·intro h i hi
   split at h
   ·rename_i h1
    rcases Nat.lt_or_ge i n with h2 | h2
    ·exact cp.1 h1 i h2
    ·obtain rfl:i=n:=om
     exact h
   ·rename_i h1;exact absurd h h1
  ·intro h
   rw[if_pos (cp.2 λi hi=>h i om)]
   exact h n om
theorem gW {g:Nat->Int} {i:Nat} (h:∀j,j<i->g j=0) (hg:g i≠0):∀n,i<n->jM g n=g i
 | 0,hn=>absurd hn om
 | n+1,hn=>by
  rw[jM]
  rcases Nat.lt_or_ge i n with h1 | h1
  ·rw[gW h hg n h1,if_neg hg]
  ·obtain rfl:i=n:=om
   rw[if_pos (cp.2 h)]
end Go.Gg
namespace Go.Gg
def sgn (neg:Bool) (n:Nat):Int:=if neg then -(n:Int) else n
def bi (q:Rat):GRat:=if q.num=0 then ⟨false,[],[]⟩ else ⟨decide (q.num<0),lim q.num.natAbs,lim q.den⟩
def yV (a:GRat):Rat:=mkRat (sgn a.Neg (val a.Num)) (val a.Den)
def eqR (a b:GRat):Bool:=a.Neg == b.Neg && a.Num == b.Num && a.Den == b.Den
def okR (a:GRat):Bool:=eqR a (bi (yV a))
def cb (a:GRat):Rat:=if okR a then yV a else 0
theorem rV {a b:GRat}:eqR a b=true↔a=b:=by
 cases a;cases b
 simp[eqR,and_assoc]
theorem qp {n:Int}:sgn (decide (n<0)) n.natAbs=n:=by
 unfold sgn
 by_cases h:n<0
 ·simp only[h,decide_true,if_true];omega
 ·simp only[h,decide_false,Bool.false_eq_true,if_false];omega
theorem uU (q:Rat):yV (bi q)=q:=by
 unfold bi
 by_cases h:q.num=0
 ·rw[if_pos h]
  have:q=0:=Rat.num_eq_zero.1 h
  subst this
  simp[yV,sgn,nG]
 ·rw[if_neg h]
  simp only[yV]
  rw[bb,bb,qp,Rat.mkRat_self]
theorem wX (q:Rat):okR (bi q)=true:=by
 unfold okR
 rw[uU]
 exact rV.2 rfl
theorem iQ (q:Rat):cb (bi q)=q:=by rw[cb,wX,if_pos rfl,uU]
theorem sI {a:GRat} (h:okR a=true):a=bi (cb a):=by
 have:=rV.1 h
 rw[cb,h,if_pos rfl]
 exact this
def gQ (l:List Int):Bool:=decide (0<l.length) && (l.getD (l.length-1) 0 != 0)
theorem wU {n:Nat} (h:n≠0):gQ (lim n)=true:=by
 have h1:=xN h
 have h2:(lim n).length≠0:=by rw[f_ om];simp
 simp only[gQ,Bool.and_eq_true,decide_eq_true_eq,bne_iff_ne]
 exact⟨by omega,h1⟩
theorem px {l:List Int} (hw:Words l) (h:gQ l=true):lim (val l)=l/\val l≠0:=by
 simp only[gQ,Bool.and_eq_true,decide_eq_true_eq,bne_iff_ne] at h
 have h1:=Bi hw (λ_=>h.2)
 refine⟨h1,λh0=>?_⟩
 rw[h0,dt] at h1
 rw[<-h1] at h
 simp at h
theorem Et {b:Bool} {n:Nat} (h:n≠0):decide (sgn b n<0)=b:=by
 cases b
 ·simp[sgn]
 ·simp[sgn];omega
theorem qT {b:Bool} {n:Nat}:(sgn b n).natAbs=n:=by cases b<;>simp[sgn]
theorem CZ {b:Bool}:sgn b 0=0:=by cases b<;>rfl
theorem Gn {b:Bool} {n:Nat} (h:n≠0):sgn b n≠0:=by
 intro h0
 have:=qT (b:=b) (n:=n)
 rw[h0] at this
 exact h (by simpa using this.symm)
theorem uY {b:Bool} {n d:Nat} (hn:n≠0) (hd:d≠0):bi (mkRat (sgn b n) d)=⟨b,lim (n / Nat.gcd n d),lim (d / Nat.gcd n d)⟩:=by
 have e1:(mkRat (sgn b n) d).num=sgn b (n / Nat.gcd n d):=by
  rw[Rat.num_mkRat,if_neg hd,qT,Nat.gcd_comm]
  cases b
  ·simp[sgn]
  ·simp only[sgn,if_true]
   have:((Nat.gcd n d:Nat):Int) ∣ (n:Int):=Int.natCast_dvd_natCast.2 (Nat.gcd_dvd_left n d)
   rw[Int.neg_ediv_of_dvd this]
   simp
 have e2:(mkRat (sgn b n) d).den=d / Nat.gcd n d:=by rw[Rat.den_mkRat,if_neg hd,qT,Nat.gcd_comm]
 have hg:0<n / Nat.gcd n d:=Nat.div_pos (Nat.le_of_dvd om (Nat.gcd_dvd_left n d)) (Nat.gcd_pos_of_pos_left _ om)
 unfold bi
 rw[e1,e2,if_neg (Gn om),Et om,qT]
theorem sG {b:Bool} {d:Nat}:bi (mkRat (sgn b 0) d)=⟨false,[],[]⟩:=by rw[CZ,Rat.zero_mkRat];rfl
theorem Bb {a:GRat} (hn:Words a.Num) (hd:Words a.Den) :
  okR a=if a.Num.length=0/\a.Den.length=0 then !a.Neg else gQ a.Num && (gQ a.Den && decide (Nat.gcd (val a.Num) (val a.Den)=1)):=by
 obtain⟨b,n,d⟩:=a
 simp only at hn hd ⊢
 by_cases h:n.length=0/\d.length=0
 ·rw[if_pos h]
  obtain rfl:=List.eq_nil_of_length_eq_zero h.1
  obtain rfl:=List.eq_nil_of_length_eq_zero h.2
  simp only[okR,yV,nG,sG]
  cases b<;>rfl
 ·rw[if_neg h]
  cases hp:gQ n with
  | false=>
   rw[Bool.false_and]
   cases ho:okR ⟨b,n,d⟩ with
   | false=>rfl
   | true=>
    exfalso
    have e:=sI ho
    unfold bi at e
    split at e
    ·cases e;exact h ⟨rfl,rfl⟩
    ·rename_i hz
     injection e with e1 e2 e3
     rw[e2,wU om] at hp
     cases hp
  | true=>
  rw[Bool.true_and]
  cases hq:gQ d with
  | false=>
   rw[Bool.false_and]
   cases ho:okR ⟨b,n,d⟩ with
   | false=>rfl
   | true=>
    exfalso
    have e:=sI ho
    unfold bi at e
    split at e
    ·cases e;exact h ⟨rfl,rfl⟩
    ·rename_i hz
     injection e with e1 e2 e3
     rw[e3,wU (Rat.den_nz _)] at hq
     cases hq
  | true=>
  rw[Bool.true_and]
  obtain⟨n1,n2⟩:=px hn hp
  obtain⟨d1,d2⟩:=px hd hq
  have hm:bi (yV ⟨b,n,d⟩)=⟨b,lim (val n / Nat.gcd (val n) (val d)),lim (val d / Nat.gcd (val n) (val d))⟩:=uY n2 d2
  by_cases hg:Nat.gcd (val n) (val d)=1
  ·rw[hg] at hm
   simp only[hg,decide_true]
   rw[okR]
   refine rV.2 ?_
   rw[hm,Nat.div_one,Nat.div_one,n1,d1]
  ·simp only[hg,decide_false]
   cases ho:okR ⟨b,n,d⟩ with
   | false=>rfl
   | true=>
    exfalso
    have e:=rV.1 ho
    rw[hm] at e
    injection e with e1 e2 e3
    have e4:val n=val n / Nat.gcd (val n) (val d):=by
     have:=congrArg val e2
     rwa[bb] at this
    have hgp:0<Nat.gcd (val n) (val d):=Nat.gcd_pos_of_pos_left _ om
    have:=Nat.div_lt_self (n:=val n) om (show 1<Nat.gcd (val n) (val d) by omega)
    omega
def RB (k:Nat) (q:Rat):Prop:=q.num.natAbs<2^k/\q.den<2^k
theorem RB.mono {k l:Nat} {q:Rat} (h:RB k q) (hkl:k<=l):RB l q:=
 ⟨Nat.lt_of_lt_of_le h.1 (Nat.pow_le_pow_right om hkl),Nat.lt_of_lt_of_le h.2 (Nat.pow_le_pow_right om hkl)⟩
theorem ga {n k:Nat} (h:n<2^k):(lim n).length<=k / 32+1:=by
 refine iT (Nat.lt_of_lt_of_le h ?_)
 have:(4294967296:Nat)^(k / 32+1)=2^(32*(k / 32+1)):=by rw[Nat.pow_mul]
 rw[this]
 exact Nat.pow_le_pow_right om om
theorem pK (k:Nat) (hk:1<=k):RB k 0:=⟨by simp;exact Nat.pow_pos om,by
 have:2^1<=2^k:=Nat.pow_le_pow_right om hk
 simp;omega⟩
theorem eN {m n k l:Nat} (h:m<2^k) (h':n<2^l):m*n<2^(k+l):=by
 rw[Nat.pow_add]
 exact Nat.mul_lt_mul'' h h'
theorem sk {n:Int} {d k:Nat} (hd:d≠0) (hn:n.natAbs<2^k) (hdk:d<2^k):RB k (mkRat n d):=by
 refine⟨?_,?_⟩
 ·rw[Rat.num_mkRat,if_neg hd]
  refine Nat.lt_of_le_of_lt ?_ hn
  exact Int.natAbs_ediv_le_natAbs _ _
 ·rw[Rat.den_mkRat,if_neg hd]
  exact Nat.lt_of_le_of_lt (Nat.div_le_self _ _) hdk
theorem qK {k l:Nat} {p q:Rat} (hp:RB k p) (hq:RB l q):RB (k+l) (p*q):=by
 rw[Rat.mul_def']
 refine sk (Nat.mul_ne_zero p.den_nz q.den_nz) ?_ (eN hp.2 hq.2)
 rw[Int.natAbs_mul]
 exact eN hp.1 hq.1
theorem qL {k l:Nat} {p q:Rat} (hp:RB k p) (hq:RB l q):RB (k+l+1) (p+q):=by
 rw[Rat.add_def']
 refine sk (Nat.mul_ne_zero p.den_nz q.den_nz) ?_ (Nat.lt_of_lt_of_le (eN hp.2 hq.2) (Nat.pow_le_pow_right om om))
 have h1:(p.num*q.den).natAbs<2^(k+l):=by rw[Int.natAbs_mul];exact eN hp.1 (by simpa using hq.2)
 have h2:(q.num*p.den).natAbs<2^(k+l):=by rw[Int.natAbs_mul,Nat.add_comm k l];exact eN hq.1 (by simpa using hp.2)
 have h3:=Int.natAbs_add_le (p.num*q.den) (q.num*p.den)
 rw[Nat.pow_succ]
 omega
theorem wa {k:Nat} {p:Rat} (hp:RB k p):RB k (-p):=⟨by simpa using hp.1,hp.2⟩
theorem G5 {k:Nat} {p:Rat} (hp:RB k p):RB k p⁻¹:=by
 by_cases h0:p.num=0
 ·have:p=0:=Rat.num_eq_zero.1 h0
  subst this
  simpa using hp
 ·refine⟨?_,?_⟩
  ·rw[Rat.num_inv,Int.natAbs_mul,Int.natAbs_sign_of_ne_zero h0,Nat.one_mul];simpa using hp.2
  ·rw[Rat.den_inv,if_neg h0];exact hp.1
theorem AC {k l:Nat} {p q:Rat} (hp:RB k p) (hq:RB l q):RB (k+l) (p / q):=by rw[Rat.div_def];exact qK hp (G5 hq)
theorem tg {k l:Nat} {p q:Rat} (hp:RB k p) (hq:RB l q):RB (k+l+1) (p-q):=by rw[Rat.sub_eq_add_neg];exact qL hp (wa hq)
theorem pj {k:Nat} {n:Int} (hk:1<=k) (h:n.natAbs<2^k):RB k (n:Rat):=⟨h,by
 have:2^1<=2^k:=Nat.pow_le_pow_right om hk
 show 1<2^k
 omega⟩
theorem Fp {a:GRat} {m:Nat} (hn:Words a.Num) (hd:Words a.Den) (h1:a.Num.length<=m) (h2:a.Den.length<=m):RB (32*m+1) (cb a):=by
 unfold cb
 split
 ·unfold yV
  by_cases hd0:val a.Den=0
  ·rw[hd0,Rat.mkRat_zero];exact pK _ om
  ·have e:∀l:List Int,Words l->l.length<=m->val l<2^(32*m+1):=λl hw hl=>by
    have k1:=ql hw
    have k2:(4294967296:Nat)^l.length<=4294967296^m:=Nat.pow_le_pow_right om hl
    have k3:(4294967296:Nat)^m=2^(32*m):=by rw[Nat.pow_mul]
    have k4:2^(32*m)<=2^(32*m+1):=Nat.pow_le_pow_right om om
    omega
   exact sk hd0 (by rw[qT];exact e _ hn h1) (e _ hd h2)
 ·exact pK _ om
end Go.Gg
namespace Go.Gg
def Fr (a:GRat):Prop:=Words a.Num/\Words a.Den/\a.Num.length<=1099511627760/\a.Den.length<=1099511627760
theorem pk {q:Rat} {k:Nat} (h:RB k q) (hk:k<=35184372088000):Fr (bi q):=by
 unfold bi
 split
 ·exact⟨Words.nil,Words.nil,by simp,by simp⟩
 ·have h1:=ga h.1
  have h2:=ga h.2
  exact⟨aM _,aM _,by dsimp only;omega,by dsimp only;omega⟩
theorem nY {n:Nat}:((lim n).length:Int)=0↔n=0:=by
 constructor
 ·intro h
  rcases Nat.eq_zero_or_pos n with h0 | h0
  ·exact h0
  ·rw[f_ h0] at h;simp at h;omega
 ·rintro rfl;rw[dt];rfl
theorem ik {n:Nat}:(cd n:Int)=0↔n=0:=by
 unfold cd
 split<;>omega
theorem A3 {b:Bool} {m n:Nat}:sgn b (m*n)=sgn b m*(n:Int):=by
 cases b<;>simp[sgn,Int.natCast_mul,Int.neg_mul]
theorem yK {b c:Bool} {m n:Nat}:sgn (b != c) (m*n)=sgn b m*sgn c n:=by
 cases b<;>cases c<;>simp[sgn,Int.natCast_mul,Int.neg_mul,Int.mul_neg,Int.neg_neg]
theorem A4 {b:Bool} {m n:Nat}:sgn b (m+n)=sgn b m+sgn b n:=by
 cases b<;>simp only[sgn,Bool.false_eq_true,if_false,if_true]<;>omega
theorem ue {b c:Bool} {m n:Nat} (hbc:¬b=c) (h:n<=m):sgn b (m-n)=sgn b m+sgn c n:=by
 cases b<;>cases c<;>first | exact absurd rfl hbc | (simp only[sgn,Bool.false_eq_true,if_false,if_true];omega)
theorem oK (q:Rat):sgn (decide (q.num<0)) q.num.natAbs=q.num:=qp
theorem xr:val [1]=1:=Bj (g:=1) om
theorem FH:lim 1=[1]:=by rw[f_ om];simp[dt]
theorem xo:Words [1]:=Words.one om om
theorem fm {neg:Bool} {num den:List Int} {Q:GRat->Prop} (hn:Words num) (hd:Words den) (ln:num.length<=1099511627760) (ld:den.length<=1099511627760)
  (h0:val den≠0) (h:Q (bi (mkRat (sgn neg (val num)) (val den)))):c8 neg num den Q:=by
 refine vC hn (by unfold SM;omega) (bP (λhc=>?_) (λhc=>?_))
 ·rw[ik] at hc
  rw[hc,sG] at h
  exact h
 ·have hn0:val num≠0:=λhh=>hc (ik.2 hh)
  rw[uY hn0 h0] at h
  have hgp:Nat.gcd (val num) (val den)≠0:=Nat.ne_of_gt (Nat.gcd_pos_of_pos_left _ om)
  refine qd hn hd om om ?_
  have hgl:(lim (Nat.gcd (val num) (val den))).length<=1099511627760:=by
   refine Nat.le_trans (cV (Nat.gcd_le_left _ om)) (Nat.le_trans (dJ hn) ln)
  refine m7 hn (aM _) om om (λhh=>absurd (by rwa[bb] at hh) hgp) (λ_=>?_)
  refine m7 hd (aM _) om om (λhh=>absurd (by rwa[bb] at hh) hgp) (λ_=>?_)
  rw[bb]
  exact h
theorem ni {a:List Int} {Q:Bool->Prop} (la:a.length<=1099511627776) (h:Q (gQ a)):h_ a Q:=by
 refine condT (λhc=>⟨by unfold rng;omega,by omega,?_⟩) (λhc=>?_)
 ·have e:gQ a=(at' a ((a.length:Int)-1) != 0):=by
   have:(a.length:Int)-1=((a.length-1:Nat):Int):=om
   rw[this,gz]
   simp only[gQ]
   rw[decide_eq_true (by omega:0<a.length),Bool.true_and]
  rw[<-e];exact h
 ·have e:gQ a=false:=by
   simp only[gQ]
   rw[decide_eq_false (by omega:¬0<a.length),Bool.false_and]
  rw[e] at h;exact h
theorem bk {b:Bool} {p q:Prop} (h1:b=true->p) (h2:b=false->q):an b p q:=⟨h1,h2⟩
theorem t9 {n:Nat} {Q:Int->Prop} (hl:(lim n).length<=1099511627776) (h:Q (n8 n 1)):dQ (lim n) [1] Q:=by
 refine gr (aM _) xo (by unfold SM;omega) (by unfold SM;simp) ?_
 rw[bb,xr]
 exact h
theorem DU {m n:Nat}:(n8 m n == 0)=decide (m=n):=by
 unfold n8
 split
 ·rw[decide_eq_false om];rfl
 ·split
  ·rename_i h;rw[decide_eq_true h];rfl
  ·rename_i h;rw[decide_eq_false h];rfl
theorem nj {a:GRat} {Q:Bool->Prop} (fa:Fr a) (h:Q (okR a)):ia a Q:=by
 obtain⟨hn,hd,ln,ld⟩:=fa
 rw[Bb hn hd] at h
 refine⟨λx=>x=decide (a.Num.length=0/\a.Den.length=0),?_,?_⟩
 ·refine bP (λhc=>?_) (λhc=>?_)
  ·by_cases hd0:a.Den.length=0
   ·rw[decide_eq_true ⟨by omega,hd0⟩];simp;exact List.eq_nil_of_length_eq_zero hd0
   ·rw[decide_eq_false om];simp;intro hh;exact hd0 (by rw[hh];rfl)
  ·rw[decide_eq_false om]
 ·rintro _ rfl
  refine condT (λhc=>?_) (λhc=>?_)
  ·rw[if_pos hc] at h;exact h
  ·rw[if_neg hc] at h
   refine ni om (bk (λhp=>?_) (λhp=>?_))
   ·rw[hp,Bool.true_and] at h
    refine ni om (bk (λhq=>?_) (λhq=>?_))
    ·rw[hq,Bool.true_and] at h
     refine qd hn hd om om ?_
     have hgl:(lim (Nat.gcd (val a.Num) (val a.Den))).length<=1099511627760:=by
      refine Nat.le_trans (cV (Nat.gcd_le_left _ ?_)) (Nat.le_trans (dJ hn) ln)
      have:=(px hn hp).2
      omega
     show dQ (lim (Nat.gcd (val a.Num) (val a.Den))) [1] (λr4=>Q (r4 == 0))
     refine t9 om ?_
     rw[DU]
     exact h
    ·rw[hq,Bool.false_and] at h;exact h
   ·rw[hp,Bool.false_and] at h;exact h
theorem CL {a:GRat} (h:okR a=false):cb a=0:=by rw[cb,h];rfl
theorem vf {a:GRat} (h:okR a=true->a.Num.length=0):cb a=0:=by
 cases ho:okR a with
 | false=>exact CL ho
 | true=>
  have e:=sI ho
  have hl:=h ho
  unfold bi at e
  split at e
  ·rename_i hz;exact Rat.num_eq_zero.1 hz
  ·rename_i hz
   rw[e] at hl
   have:=nY.1 (by rw[hl];rfl)
   omega
theorem vg {a:GRat} (ho:okR a=true) (hl:a.Num.length≠0):(cb a).num≠0/\a=⟨decide ((cb a).num<0),lim (cb a).num.natAbs,lim (cb a).den⟩:=by
 have e:=sI ho
 by_cases hz:(cb a).num=0
 ·exfalso
  unfold bi at e
  rw[if_pos hz] at e
  rw[e] at hl
  exact hl rfl
 ·refine⟨hz,?_⟩
  unfold bi at e
  rw[if_neg hz] at e
  exact e
theorem fG {a:GRat} {Q:Bool->List Int->List Int->Prop} (fa:Fr a) (h:Q (decide ((cb a).num<0)) (lim (cb a).num.natAbs) (lim (cb a).den)):dI a Q:=by
 refine⟨λx=>x=(!okR a || decide (a.Num.length=0)),?_,?_⟩
 ·refine nj fa (bk (λhc=>?_) (λhc=>?_))
  ·rw[hc];rfl
  ·rw[hc,Bool.false_or]
   by_cases hl:a.Num.length=0
   ·rw[decide_eq_true hl];simp;exact List.eq_nil_of_length_eq_zero hl
   ·rw[decide_eq_false hl];simp;intro hh;exact hl (by rw[hh];rfl)
 ·rintro _ rfl
  refine bk (λhc=>?_) (λhc=>?_)
  ·have hz:cb a=0:=vf (λho=>by rw[ho] at hc;simpa using hc)
   rw[hz] at h
   simp at h
   rw[dt,FH] at h
   exact h
  ·simp at hc
   obtain⟨_,e⟩:=vg hc.1 (λhl=>hc.2 (List.eq_nil_of_length_eq_zero hl))
   rw[show a.Neg=decide ((cb a).num<0) from by rw[e];simp[<-e],show a.Num=lim (cb a).num.natAbs from by rw[e];simp[<-e],show a.Den=lim (cb a).den from by rw[e];simp[<-e]]
   exact h
theorem m_ {q:Rat} {k:Nat} (h:RB k q):(lim q.num.natAbs).length<=k / 32+1/\(lim q.den).length<=k / 32+1:=⟨ga h.1,ga h.2⟩
theorem jZ {m n k l:Nat} (h:m<2^k) (h':n<2^l):(lim (m*n)).length<=(k+l) / 32+1:=ga (eN h h')
theorem BO {m n k:Nat} (h:m<2^k) (h':n<2^k):(lim (m+n)).length<=(k+1) / 32+1:=ga (by rw[Nat.pow_succ];omega)
theorem zL (p q:Rat):p+q=mkRat (sgn (decide (p.num<0)) (p.num.natAbs*q.den)+sgn (decide (q.num<0)) (q.num.natAbs*p.den)) (p.den*q.den):=by
 rw[A3,A3,oK,oK,Rat.add_def']
theorem zl (p q:Rat):p*q=mkRat (sgn (decide (p.num<0) != decide (q.num<0)) (p.num.natAbs*q.num.natAbs)) (p.den*q.den):=by
 rw[yK,oK,oK,Rat.mul_def']
theorem Dz {q:Rat} (_h:q.num≠0):q⁻¹=mkRat (sgn (decide (q.num<0)) q.den) q.num.natAbs:=by
 rw[Rat.inv_def]
 by_cases hn:q.num<0
 ·rw[decide_eq_true hn]
  have e:q.num = -((q.num.natAbs:Nat):Int):=om
  rw[<-Rat.divInt_ofNat]
  show Rat.divInt q.den q.num=Rat.divInt (-(q.den:Int)) _
  rw[<-Rat.divInt_neg',<-e]
 ·rw[decide_eq_false hn]
  have e:q.num=((q.num.natAbs:Nat):Int):=om
  rw[<-Rat.divInt_ofNat]
  show Rat.divInt q.den q.num=Rat.divInt (q.den:Int) _
  rw[<-e]
theorem DO (p:Rat) {q:Rat} (h:q.num≠0):p / q=mkRat (sgn (decide (p.num<0) != decide (q.num<0)) (p.num.natAbs*q.den)) (p.den*q.num.natAbs):=by
 rw[Rat.div_def,Dz h,yK,oK]
 have:p=mkRat p.num p.den:=(Rat.mkRat_self p).symm
 rw[this,Rat.mkRat_mul_mkRat,<-this]
theorem zh (p:Rat) : -p=mkRat (sgn (!decide (p.num<0)) p.num.natAbs) p.den:=by
 have e:sgn (!decide (p.num<0)) p.num.natAbs = -p.num:=by
  by_cases h:p.num<0
  ·rw[decide_eq_true h];simp only[sgn,Bool.not_true,Bool.false_eq_true,if_false];omega
  ·rw[decide_eq_false h];simp only[sgn,Bool.not_false,if_true];omega
 rw[e,<-Rat.neg_mkRat,Rat.mkRat_self]
theorem oR {a b:GRat} {k l:Nat} {Q:GRat->Prop} (fa:Fr a) (fb:Fr b) (ka:RB k (cb a)) (kb:RB l (cb b)) (hk:k+l+1<=35184372088000) (h:Q (bi (cb a+cb b))):dW a b Q:=by
 refine fG fa (fG fb ?_)
 generalize cb a=p at ka h ⊢
 generalize cb b=q at kb h ⊢
 have la:=m_ ka
 have lb:=m_ kb
 have l1:=jZ ka.1 kb.2
 have l2:=jZ kb.1 ka.2
 have l3:=jZ ka.2 kb.2
 have hd:p.den*q.den≠0:=Nat.mul_ne_zero p.den_nz q.den_nz
 refine iD (aM _) (aM _) om (iD (aM _) (aM _) om (iD (aM _) (aM _) om ?_))
 simp only[bb]
 rw[zL] at h
 refine bP (λhs=>?_) (λhs=>?_)
 ·refine wF (aM _) (aM _) (by unfold SM;omega) ⟨by omega,by omega⟩ ?_
  simp only[bb]
  have l4:(lim (p.num.natAbs*q.den+q.num.natAbs*p.den)).length<=(k+l+1) / 32+1:=BO (eN ka.1 kb.2) (by rw[Nat.add_comm k];exact eN kb.1 ka.2)
  refine fm (aM _) (aM _) om om (by rw[bb];exact hd) ?_
  rw[bb,bb,A4]
  rw[<-hs] at h
  exact h
 ·refine gr (aM _) (aM _) (by unfold SM;omega) (by unfold SM;omega) ?_
  simp only[bb]
  refine condT (λhc=>?_) (λhc=>?_)
  ·have hle:q.num.natAbs*p.den<=p.num.natAbs*q.den:=by
    rcases Nat.lt_or_ge (p.num.natAbs*q.den) (q.num.natAbs*p.den) with h1 | h1
    ·have:=kW.2 h1;omega
    ·exact h1
   refine qc (aM _) (aM _) (by unfold SM;omega) (by unfold SM;omega) (λhh=>by rw[bb,bb] at hh;omega) (λ_=>?_)
   simp only[bb]
   have l4:=cV (Nat.sub_le (p.num.natAbs*q.den) (q.num.natAbs*p.den))
   refine fm (aM _) (aM _) om om (by rw[bb];exact hd) ?_
   rw[bb,bb,ue hs hle]
   exact h
  ·have hle:p.num.natAbs*q.den<=q.num.natAbs*p.den:=by
    rcases Nat.lt_or_ge (p.num.natAbs*q.den) (q.num.natAbs*p.den) with h1 | h1
    ·omega
    ·exfalso
     apply hc
     unfold n8
     split
     ·omega
     ·split<;>omega
   refine qc (aM _) (aM _) (by unfold SM;omega) (by unfold SM;omega) (λhh=>by rw[bb,bb] at hh;omega) (λ_=>?_)
   simp only[bb]
   have l4:=cV (Nat.sub_le (q.num.natAbs*p.den) (p.num.natAbs*q.den))
   refine fm (aM _) (aM _) om om (by rw[bb];exact hd) ?_
   rw[bb,bb,ue (λe=>hs e.symm) hle,Int.add_comm]
   exact h
theorem uX {a b:GRat} {k l:Nat} {Q:GRat->Prop} (fa:Fr a) (fb:Fr b) (ka:RB k (cb a)) (kb:RB l (cb b)) (hk:k+l+1<=35184372088000) (h:Q (bi (cb a*cb b))):dV a b Q:=by
 refine fG fa (fG fb ?_)
 generalize cb a=p at ka h ⊢
 generalize cb b=q at kb h ⊢
 have la:=m_ ka
 have lb:=m_ kb
 have l1:=jZ ka.1 kb.1
 have l3:=jZ ka.2 kb.2
 have hd:p.den*q.den≠0:=Nat.mul_ne_zero p.den_nz q.den_nz
 refine iD (aM _) (aM _) om (iD (aM _) (aM _) om ?_)
 simp only[bb]
 refine fm (aM _) (aM _) om om (by rw[bb];exact hd) ?_
 rw[bb,bb,<-zl]
 exact h
theorem uW {a:GRat} {k:Nat} {Q:GRat->Prop} (fa:Fr a) (ka:RB k (cb a)) (hk:k<=35184372088000) (h:Q (bi (-cb a))):lP a Q:=by
 refine fG fa ?_
 generalize cb a=p at ka h ⊢
 have la:=m_ ka
 refine fm (aM _) (aM _) om om (by rw[bb];exact p.den_nz) ?_
 rw[bb,bb,<-zh]
 exact h
theorem uV {a b:GRat} {k l:Nat} {Q:GRat->Prop} (fa:Fr a) (fb:Fr b) (ka:RB k (cb a)) (kb:RB l (cb b)) (hk:k+l+1<=35184372088000) (h:Q (bi (cb a-cb b))):fH a b Q:=by
 refine⟨_,uW fb kb om rfl,_,oR fa (pk (wa kb) om) ka (by rw[iQ];exact wa kb) hk rfl,?_⟩
 rw[iQ,<-Rat.sub_eq_add_neg]
 exact h
def pP (q:Rat):Int:=if q.num=0 then 0 else if q.num<0 then -1 else 1
theorem tW {n:Int} {Q:List Int->Prop} (hn:rng n) (h:Q (lim n.natAbs)):kz n Q:=by
 refine bP (λhc=>?_) (λhc=>?_)
 ·subst hc
  have:lim (Int.natAbs (-9223372036854775808))=[0,2147483648]:=by
   rw[show Int.natAbs (-9223372036854775808)=9223372036854775808 from rfl,f_ om,f_ om]
   simp[dt]
  rw[this] at h
  exact h
 ·unfold rng at hn ⊢
  refine⟨by omega,rA om ?_⟩
  have:(max n (-n)).toNat=n.natAbs:=om
  rw[this]
  exact h
theorem qa {n:Int} {Q:GRat->Prop} (hn:rng n) (h:Q (bi (n:Rat))):eK n Q:=by
 refine tW hn ?_
 show c8 _ _ [1] _
 have hl:(lim n.natAbs).length<=64 / 32+1:=ga (by unfold rng at hn;omega)
 refine fm (aM _) xo om (by simp) (by rw[xr];omega) ?_
 rw[bb,xr,qp,show mkRat n 1=(n:Rat) from Rat.mkRat_self (n:Rat)]
 exact h
end Go.Gg
namespace Go.Gg
theorem ra {neg:Bool} {num den:List Int} {Q:GRat->Int->Prop} (hn:Words num) (hd:Words den) (ln:num.length<=1099511627760) (ld:den.length<=1099511627760)
  (h8:val den=0->Q (bi 0) 8) (h:val den≠0->Q (bi (mkRat (sgn neg (val num)) (val den))) 0):fw neg num den Q:=by
 refine nQ hd (by unfold SM;omega) (bP (λhc=>?_) (λhc=>?_))
 ·exact h8 (ik.1 hc)
 have h0:val den≠0:=λhh=>hc (ik.2 hh)
 replace h:=h h0
 refine nQ hn (by unfold SM;omega) (bP (λhc=>?_) (λhc=>?_))
 ·rw[ik] at hc
  rw[hc,sG] at h
  exact h
 ·have hn0:val num≠0:=λhh=>hc (ik.2 hh)
  rw[uY hn0 h0] at h
  have hgp:Nat.gcd (val num) (val den)≠0:=Nat.ne_of_gt (Nat.gcd_pos_of_pos_left _ om)
  refine tB hn hd om om ?_
  have hgl:(lim (Nat.gcd (val num) (val den))).length<=1099511627760:=by
   refine Nat.le_trans (cV (Nat.gcd_le_left _ om)) (Nat.le_trans (dJ hn) ln)
  refine oP hn (aM _) om om (λhh=>absurd (by rwa[bb] at hh) hgp) (λ_=>?_)
  refine oP hd (aM _) om om (λhh=>absurd (by rwa[bb] at hh) hgp) (λ_=>?_)
  rw[bb]
  exact h
theorem iB {neg:Bool} {num den:List Int} {Q:GRat->Int->Prop} (hn:Words num) (hd:Words den) (ln:num.length<=1099511627760) (ld:den.length<=1099511627760)
  (h0:val den≠0) (h:Q (bi (mkRat (sgn neg (val num)) (val den))) 0):fw neg num den Q:=
 ra hn hd ln ld (λhh=>absurd hh h0) (λ_=>h)
theorem D1 {n:Nat}:((cd n:Int) == 1)=decide (n=1):=by
 have h:(cd n:Int)=1↔n=1:=by
  constructor
  ·intro h
   have a:=pH (n:=n)
   rw[show cd n=1 by omega] at a
   have:n≠0:=by rintro rfl;rw[xj] at h;omega
   omega
  ·rintro rfl;rfl
 by_cases hn:n=1
 ·rw[decide_eq_true hn];simpa using h.2 hn
 ·rw[decide_eq_false hn];simpa using λe=>hn (h.1 e)
theorem p7 {a:GRat} {Q:Bool->Prop} (fa:Fr a) (h:Q (okR a)):iA a Q:=by
 obtain⟨hn,hd,ln,ld⟩:=fa
 rw[Bb hn hd] at h
 have hpb:∀l:List Int,l.length≠0->l.length<=1099511627760->rng ((l.length:Int)-1)/\((0:Int)<=((l.length:Int)-1)/\((l.length:Int)-1)<(l.length:Int))/\gQ l=(at' l ((l.length:Int)-1) != 0):=λl hl hl2=>by
  have:(l.length:Int)-1=((l.length-1:Nat):Int):=om
  refine⟨by unfold rng;omega,by omega,?_⟩
  rw[this,gz]
  simp only[gQ]
  rw[decide_eq_true (by omega:0<l.length),Bool.true_and]
 have hpn:∀l:List Int,l.length=0->gQ l=false:=λl hl=>by
  simp only[gQ]
  rw[decide_eq_false (by omega:¬0<l.length),Bool.false_and]
 refine⟨λx=>x=decide (a.Num.length=0\/a.Den.length=0),?_,?_⟩
 ·refine bP (λhc=>?_) (λhc=>?_)
  ·rw[decide_eq_true om]
  ·by_cases hd0:a.Den.length=0
   ·rw[decide_eq_true om];simp;exact List.eq_nil_of_length_eq_zero hd0
   ·rw[decide_eq_false om];simp;intro hh;exact hd0 (by rw[hh];rfl)
 ·rintro _ rfl
  refine condT (λhc=>?_) (λhc=>?_)
  ·refine bP (λh1=>bP (λh2=>?_) (λh2=>?_)) (λh1=>?_)
   ·rw[if_pos om] at h;exact h
   ·rw[if_neg om,hpn _ (by omega:a.Num.length=0),Bool.false_and] at h;exact h
   ·rw[if_neg om,hpn a.Den om,Bool.false_and,Bool.and_false] at h;exact h
  ·obtain⟨r1,r2,r3⟩:=hpb a.Num om ln
   obtain⟨s1,s2,s3⟩:=hpb a.Den om ld
   rw[if_neg om] at h
   refine⟨r1,r2,?_⟩
   rw[<-r3]
   refine bk (λhp=>⟨s1,s2,?_⟩) (λhp=>?_)
   ·rw[hp,Bool.true_and] at h
    rw[<-s3]
    refine bk (λhq=>?_) (λhq=>?_)
    ·rw[hq,Bool.true_and] at h
     refine tB hn hd om om ?_
     have hgl:(lim (Nat.gcd (val a.Num) (val a.Den))).length<=1099511627760:=by
      refine Nat.le_trans (cV (Nat.gcd_le_left _ ?_)) (Nat.le_trans (dJ hn) ln)
      have:=(px hn hp).2
      omega
     refine nQ (aM _) (by unfold SM;omega) ?_
     rw[bb,D1]
     exact h
    ·rw[hq,Bool.false_and] at h;exact h
   ·rw[hp,Bool.false_and] at h;exact h
theorem gn {a:GRat} {Q:Bool->List Int->List Int->Prop} (fa:Fr a) (h:Q (decide ((cb a).num<0)) (lim (cb a).num.natAbs) (lim (cb a).den)):eJ a Q:=by
 refine⟨λx=>x=(!okR a || decide (a.Num.length=0)),?_,?_⟩
 ·refine p7 fa (bk (λhc=>?_) (λhc=>?_))
  ·rw[hc];rfl
  ·have hc:okR a=true:=by simpa using hc
   rw[hc,Bool.not_true,Bool.false_or]
   by_cases hl:a.Num.length=0
   ·rw[decide_eq_true hl];simp;exact List.eq_nil_of_length_eq_zero hl
   ·rw[decide_eq_false hl];simp;intro hh;exact hl (by rw[hh];rfl)
 ·rintro _ rfl
  refine bk (λhc=>?_) (λhc=>?_)
  ·have hz:cb a=0:=vf (λho=>by rw[ho] at hc;simpa using hc)
   rw[hz] at h
   simp at h
   rw[dt,FH] at h
   exact h
  ·simp at hc
   obtain⟨_,e⟩:=vg hc.1 (λhl=>hc.2 (List.eq_nil_of_length_eq_zero hl))
   rw[show a.Neg=decide ((cb a).num<0) from by rw[e];simp[<-e],show a.Num=lim (cb a).num.natAbs from by rw[e];simp[<-e],show a.Den=lim (cb a).den from by rw[e];simp[<-e]]
   exact h
theorem tA {a b:GRat} {k l:Nat} {Q:GRat->Prop} (fa:Fr a) (fb:Fr b) (ka:RB k (cb a)) (kb:RB l (cb b)) (hk:k+l+1<=35184372088000) (h:Q (bi (cb a+cb b))):gN a b Q:=by
 refine gn fa (gn fb ?_)
 generalize cb a=p at ka h ⊢
 generalize cb b=q at kb h ⊢
 have la:=m_ ka
 have lb:=m_ kb
 have l1:=jZ ka.1 kb.2
 have l2:=jZ kb.1 ka.2
 have l3:=jZ ka.2 kb.2
 have hd:p.den*q.den≠0:=Nat.mul_ne_zero p.den_nz q.den_nz
 refine i3 (aM _) (aM _) om (i3 (aM _) (aM _) om (i3 (aM _) (aM _) om ?_))
 simp only[bb]
 rw[zL] at h
 refine bP (λhs=>?_) (λhs=>?_)
 ·refine yU (aM _) (aM _) ⟨by omega,by omega⟩ ?_
  simp only[bb]
  have l4:(lim (p.num.natAbs*q.den+q.num.natAbs*p.den)).length<=(k+l+1) / 32+1:=BO (eN ka.1 kb.2) (by rw[Nat.add_comm k];exact eN kb.1 ka.2)
  refine iB (aM _) (aM _) om om (by rw[bb];exact hd) ?_
  rw[bb,bb,A4]
  rw[<-hs] at h
  exact h
 ·refine Dy (oQ (aM _) (aM _) (by unfold SM;omega) (by unfold SM;omega) ?_)
  simp only[bb]
  refine condT (λhc=>?_) (λhc=>?_)
  ·have hlt:p.num.natAbs*q.den<q.num.natAbs*p.den:=kW.1 hc
   refine mq (aM _) (aM _) (by unfold SM;omega) (by unfold SM;omega) (λhh=>by rw[bb,bb] at hh;omega) (λ_=>?_)
   simp only[bb]
   have l4:=cV (Nat.sub_le (q.num.natAbs*p.den) (p.num.natAbs*q.den))
   refine iB (aM _) (aM _) om om (by rw[bb];exact hd) ?_
   rw[bb,bb,ue (λe=>hs e.symm) om,Int.add_comm]
   exact h
  ·have hle:q.num.natAbs*p.den<=p.num.natAbs*q.den:=by
    rcases Nat.lt_or_ge (p.num.natAbs*q.den) (q.num.natAbs*p.den) with h1 | h1
    ·exact absurd (kW.2 h1) hc
    ·exact h1
   refine mq (aM _) (aM _) (by unfold SM;omega) (by unfold SM;omega) (λhh=>by rw[bb,bb] at hh;omega) (λ_=>?_)
   simp only[bb]
   have l4:=cV (Nat.sub_le (p.num.natAbs*q.den) (q.num.natAbs*p.den))
   refine iB (aM _) (aM _) om om (by rw[bb];exact hd) ?_
   rw[bb,bb,ue hs hle]
   exact h
theorem yR {a b:GRat} {k l:Nat} {Q:GRat->Prop} (fa:Fr a) (fb:Fr b) (ka:RB k (cb a)) (kb:RB l (cb b)) (hk:k+l+1<=35184372088000) (h:Q (bi (cb a*cb b))):i2 a b Q:=by
 refine gn fa (gn fb ?_)
 generalize cb a=p at ka h ⊢
 generalize cb b=q at kb h ⊢
 have la:=m_ ka
 have lb:=m_ kb
 have l1:=jZ ka.1 kb.1
 have l3:=jZ ka.2 kb.2
 have hd:p.den*q.den≠0:=Nat.mul_ne_zero p.den_nz q.den_nz
 refine i3 (aM _) (aM _) om (i3 (aM _) (aM _) om ?_)
 simp only[bb]
 refine iB (aM _) (aM _) om om (by rw[bb];exact hd) ?_
 rw[bb,bb,<-zl]
 exact h
theorem yQ {a:GRat} {k:Nat} {Q:GRat->Prop} (fa:Fr a) (ka:RB k (cb a)) (hk:k<=35184372088000) (h:Q (bi (-cb a))):oN a Q:=by
 refine gn fa ?_
 generalize cb a=p at ka h ⊢
 have la:=m_ ka
 refine iB (aM _) (aM _) om om (by rw[bb];exact p.den_nz) ?_
 rw[bb,bb,<-zh]
 exact h
theorem tz {a b:GRat} {k l:Nat} {Q:GRat->Prop} (fa:Fr a) (fb:Fr b) (ka:RB k (cb a)) (kb:RB l (cb b)) (hk:k+l+1<=35184372088000) (h:Q (bi (cb a-cb b))):i0 a b Q:=by
 refine⟨_,yQ fb kb om rfl,_,tA fa (pk (wa kb) om) ka (by rw[iQ];exact wa kb) hk rfl,?_⟩
 rw[iQ,<-Rat.sub_eq_add_neg]
 exact h
theorem qY {a:GRat} {Q:Int->Prop} (fa:Fr a) (h:Q (pP (cb a))):h9 a Q:=by
 refine gn fa ?_
 generalize cb a=p at h ⊢
 unfold pP at h
 refine bP (λhc=>?_) (λhc=>?_)
 ·rw[nY] at hc
  rw[if_pos om] at h;exact h
 ·have hq:p.num≠0:=λhh=>hc (nY.2 om)
  rw[if_neg hq] at h
  refine condT (λhs=>?_) (λhs=>?_)
  ·rw[if_pos hs] at h;exact h
  ·rw[if_neg hs] at h;exact h
theorem yS {a b:GRat} {k l:Nat} {Q:Int->Prop} (fa:Fr a) (fb:Fr b) (ka:RB k (cb a)) (kb:RB l (cb b)) (hk:k+l+1<=35184372088000) (h:Q (pP (cb a-cb b))):j9 a b Q:=by
 refine tz fa fb ka kb hk (qY (pk (tg ka kb) hk) ?_)
 rw[iQ]
 exact h
theorem qX {n:Int} {Q:List Int->Prop} (hn:rng n) (h:∀l,Words l->l.length=2->val l=n.natAbs->Q l):kO n Q:=by
 unfold rng at hn
 refine Dy ?_
 have key:∀u:Int,u=n.natAbs->Q [(IntKind.wrap .u32 u),(IntKind.wrap .u32 (u / 2^(Int.toNat 32)))]:=by
  intro u hu
  rw[wrap_u32,wrap_u32]
  have h32:(2:Int)^(Int.toNat 32)=4294967296:=rfl
  rw[h32]
  have hw2:Words [u / 4294967296 % 4294967296]:=Words.one om om
  have hw:Words [u % 4294967296,u / 4294967296 % 4294967296]:=by
   intro i
   match i with
   | 0=>simp;omega
   | 1=>simp;omega
   | i+2=>simp
  refine h _ hw rfl ?_
  rw[j6 hw,j6 hw2,nG]
  omega
 refine condT (λhc=>iF ?_) (λhc=>?_)
 ·rw[oF,oF]
  exact key _ om
 ·rw[oF]
  exact key _ om
theorem q_ {n d:Int} {Q:GRat->Int->Prop} (hn:rng n) (hd:rng d) (h0:d=0->Q (bi 0) 8) (h:d≠0->Q (bi ((n:Rat) / (d:Rat))) 0):kP n d Q:=by
 refine qX hn λl1 w1 e1 v1=>qX hd λl2 w2 e2 v2=>?_
 refine ra w1 w2 om om (λhz=>?_) (λhz=>?_)
 ·exact h0 om
 ·rw[v1,v2]
  have hd0:d≠0:=om
  have e:=DO (n:Rat) (q:=(d:Rat)) (by simpa using hd0)
  simp only[Rat.num_intCast,Rat.den_intCast,Nat.mul_one,Nat.one_mul] at e
  have h2:=h hd0
  rw[e] at h2
  exact h2
theorem uQ {n:Int} {Q:GRat->Prop} (hn:rng n) (h:Q (bi (n:Rat))):iR n Q:=by
 refine q_ hn (by unfold rng;omega) (λhh=>absurd hh om) (λ_=>?_)
 have:(n:Rat) / ((1:Int):Rat)=n:=by
  rw[Rat.div_def]
  show(n:Rat)*(1:Rat)⁻¹=n
  rw[show(1:Rat)⁻¹=1 from(Rat.mul_one _).symm.trans (Rat.inv_mul_cancel 1 (by decide)),Rat.mul_one]
 rw[this]
 exact h
end Go.Gg
namespace Go.Gg
theorem rU {α:Type} [Inhabited α] {l m:List α} (hl:l.length=m.length) (h:∀i:Nat,i<l.length->at' l (i:Int)=at' m (i:Int)):l=m:=by
 refine List.ext_getElem hl λi h1 h2=>?_
 have:=h i h1
 simp only[at',Int.toNat_natCast,List.getD_eq_getElem?_getD,List.getElem?_eq_getElem h1,List.getElem?_eq_getElem h2,Option.getD_some] at this
 exact this
instance decGRat:DecidableEq GRat:=λ_ _=>decidable_of_iff _ rV
theorem r_ {a b:List Int} {Q:Bool->Prop} (la:a.length<=1099511627776) (h:Q (decide (a=b))):kX a b Q:=by
 refine c_ (λhc=>?_) (λhc=>?_)
 ·rw[decide_eq_false (λe=>hc (by rw[e]))] at h;exact h
 ·have hl:a.length=b.length:=om
  refine⟨λx=>∃i:Nat,x=i/\i<=a.length/\∀j:Nat,j<i->at' a (j:Int)=at' b (j:Int),λx=>a.length-x.toNat,⟨0,rfl,by omega,λj hj=>absurd hj om⟩,?_⟩
  rintro _ ⟨i,rfl,hi,hI⟩
  refine condT (λhc=>⟨⟨by omega,hc⟩,⟨by omega,by omega⟩,c_ (λhne=>?_) (λhe=>⟨by unfold rng;omega,⟨i+1,by omega,by omega,λj hj=>?_⟩,by dsimp only;omega⟩)⟩) (λhc=>?_)
  ·rw[decide_eq_false (λe=>hne (by rw[e]))] at h;exact h
  ·rcases Nat.lt_or_ge j i with h1 | h1
   ·exact hI j h1
   ·obtain rfl:j=i:=om
    exact he
  ·rw[decide_eq_true (rU hl (λj hj=>hI j om))] at h;exact h
theorem oa {a b:GRat} {Q:Bool->Prop} (la:a.Num.length<=1099511627776) (ld:a.Den.length<=1099511627776) (h:Q (decide (a=b))):ge a b Q:=by
 obtain⟨n,x,y⟩:=a
 obtain⟨n',x',y'⟩:=b
 refine bP (λh1=>?_) (λh1=>?_)
 ·refine r_ la (condT (λh2=>?_) (λh2=>?_))
  ·refine r_ ld ?_
   dsimp only at h1 h2 ⊢
   subst h1 h2
   by_cases h3:y=y'
   ·subst h3;rw[decide_eq_true rfl] at h ⊢;exact h
   ·rw[decide_eq_false h3];rw[decide_eq_false (λe=>h3 (by injection e))] at h;exact h
  ·rw[decide_eq_false (λe=>h2 (by injection e))] at h;exact h
 ·rw[decide_eq_false (λe=>h1 (by injection e))] at h;exact h
theorem zI {a b:List GRat} {Q:Bool->Prop} (la:a.length<=1099511627776) (hs:∀i:Nat,i<a.length->(at' a (i:Int)).Num.length<=1099511627776/\(at' a (i:Int)).Den.length<=1099511627776)
  (h:Q (decide (a=b))):ku a b Q:=by
 refine c_ (λhc=>?_) (λhc=>?_)
 ·rw[decide_eq_false (λe=>hc (by rw[e]))] at h;exact h
 ·have hl:a.length=b.length:=om
  refine⟨λx=>∃i:Nat,x=i/\i<=a.length/\∀j:Nat,j<i->at' a (j:Int)=at' b (j:Int),λx=>a.length-x.toNat,⟨0,rfl,by omega,λj hj=>absurd hj om⟩,?_⟩
  rintro _ ⟨i,rfl,hi,hI⟩
  refine condT (λhc=>⟨⟨by omega,hc⟩,⟨by omega,by omega⟩,_,oa (hs i om).1 (hs i om).2 rfl,bk (λhne=>?_) (λhe=>⟨by unfold rng;omega,⟨i+1,by omega,by omega,λj hj=>?_⟩,by dsimp only;omega⟩)⟩) (λhc=>?_)
  ·rw[Bool.not_eq_true',decide_eq_false_iff_not] at hne
   rw[decide_eq_false (λe=>hne (by rw[e]))] at h;exact h
  ·rw[Bool.not_eq_false',decide_eq_true_iff] at he
   rcases Nat.lt_or_ge j i with h1 | h1
   ·exact hI j h1
   ·obtain rfl:j=i:=om
    exact he
  ·rw[decide_eq_true (rU hl (λj hj=>hI j om))] at h;exact h
theorem pf {a:List GRat} {Q:Bool->Prop} (la:a.length<=1099511627776) (hs:∀i:Nat,i<a.length->(at' a (i:Int)).Num.length<=1099511627776/\(at' a (i:Int)).Den.length<=1099511627776)
  (h:Q true):ku a a Q:=zI la hs (by rw[decide_eq_true rfl];exact h)
def kK (e:Int):Option Int:=if e=0 then none else some e
theorem qH {e:Int} {Q:Int->Prop} (h:Q e):gZ (kK e) Q:=by
 unfold kK
 by_cases he:e=0
 ·rw[if_pos he];subst he;exact bk (λ_=>h) (λhh=>by cases hh)
 ·rw[if_neg he];exact bk (λhh=>by cases hh) (λ_=>bk (λ_=>h) (λhh=>by cases hh))
end Go.Gg
namespace Go.Gg
def Rp (k:Nat) (a:GRat) (q:Rat):Prop:=Fr a/\cb a=q/\RB k q
def WrR (a:GRat):Prop:=Words a.Num/\Words a.Den
def WrL (l:List GRat):Prop:=∀i:Nat,i<l.length->WrR (at' l (i:Int))
abbrev cap:Nat:=35184372088000
theorem Rp.of {q:Rat} {k:Nat} (h:RB k q) (hk:k<=cap):Rp k (bi q) q:=⟨pk h hk,iQ q,h⟩
theorem Rp.mono {a:GRat} {q:Rat} {k l:Nat} (h:Rp k a q) (hkl:k<=l):Rp l a q:=⟨h.1,h.2.1,h.2.2.mono hkl⟩
theorem Rp.self {a:GRat} {k:Nat} (h:Fr a) (hb:RB k (cb a)):Rp k a (cb a):=⟨h,rfl,hb⟩
theorem Rp.len {a:GRat} {q:Rat} {k:Nat} (h:Rp k a q):a.Num.length<=1099511627776/\a.Den.length<=1099511627776:=⟨Nat.le_trans h.1.2.2.1 om,Nat.le_trans h.1.2.2.2 om⟩
theorem Rp.zero {k:Nat} (hk:1<=k) (hk2:k<=cap):Rp k (⟨false,[],[]⟩:GRat) 0:=.of (pK k hk) hk2
theorem lq {n:Int} (hn:rng n):RB 64 (n:Rat):=pj om (by unfold rng at hn;omega)
theorem C1 {q:Rat}:pP q<0↔q<0:=by
 unfold pP
 have h1:q.num<0↔q<0:=by
  have:=Rat.num_nonneg (q:=q)
  rw[<-Int.not_le,this,Rat.not_le]
 split
 ·rename_i h;rw[h] at h1;simpa using h1
 ·split
  ·rename_i h;simpa using h1.1 h
  ·rename_i h;simpa using λhh=>h (h1.2 hh)
theorem Eu {q:Rat}:pP q=0↔q=0:=by
 unfold pP
 constructor
 ·intro h
  split at h
  ·rename_i h0;exact Rat.num_eq_zero.1 h0
  ·split at h<;>omega
 ·rintro rfl;rfl
theorem oL {q:Rat}:0<=pP q↔0<=q:=by rw[<-Int.not_lt,C1,Rat.not_lt]
theorem C0 {q:Rat}:0<pP q↔0<q:=by
 have h1:=@oL q
 have h2:=@Eu q
 constructor
 ·intro h
  have h3:=h1.1 om
  rcases Rat.le_iff_lt_or_eq.1 h3 with h4 | h4
  ·exact h4
  ·have:=h2.2 h4.symm;omega
 ·intro h
  have h3:=h1.2 (Rat.le_of_lt h)
  have h4:pP q≠0:=λe=>by rw[h2.1 e] at h;exact Rat.lt_irrefl h
  omega
theorem yL {q:Rat}:pP q<=0↔q<=0:=by rw[<-Int.not_lt,C0,Rat.not_lt]
theorem yD {p q:Rat}:p-q<=0↔p<=q:=by constructor<;>intro h<;>grind
theorem FT {a b:GRat} {p q:Rat} {k l:Nat} {Q:GRat->Prop} (ha:Rp k a p) (hb:Rp l b q) (hk:k+l+1<=cap) (h:Rp (k+l+1) (bi (p+q)) (p+q)->Q (bi (p+q))):dW a b Q:=by
 obtain⟨fa,rfl,ka⟩:=ha
 obtain⟨fb,rfl,kb⟩:=hb
 exact oR fa fb ka kb hk (h (.of (qL ka kb) hk))
theorem Ea {a b:GRat} {p q:Rat} {k l:Nat} {K:GRat->Prop} (ha:Rp k a p) (hb:Rp l b q) (hk:k+l+1<=cap) (h:Rp (k+l+1) (bi (p+q)) (p+q)->K (bi (p+q))):cR (dW a b) K:=
 ⟨_,FT ha hb hk (λ_=>rfl),h (.of (qL ha.2.2 hb.2.2) hk)⟩
theorem Fx {a b:GRat} {p q:Rat} {k l:Nat} {Q:GRat->Prop} (ha:Rp k a p) (hb:Rp l b q) (hk:k+l+1<=cap) (h:Rp (k+l+1) (bi (p-q)) (p-q)->Q (bi (p-q))):fH a b Q:=by
 obtain⟨fa,rfl,ka⟩:=ha
 obtain⟨fb,rfl,kb⟩:=hb
 exact uV fa fb ka kb hk (h (.of (tg ka kb) hk))
theorem Gi {a b:GRat} {p q:Rat} {k l:Nat} {K:GRat->Prop} (ha:Rp k a p) (hb:Rp l b q) (hk:k+l+1<=cap) (h:Rp (k+l+1) (bi (p-q)) (p-q)->K (bi (p-q))):cR (fH a b) K:=
 ⟨_,Fx ha hb hk (λ_=>rfl),h (.of (tg ha.2.2 hb.2.2) hk)⟩
theorem FF {a b:GRat} {p q:Rat} {k l:Nat} {Q:GRat->Prop} (ha:Rp k a p) (hb:Rp l b q) (hk:k+l+1<=cap) (h:Rp (k+l) (bi (p*q)) (p*q)->Q (bi (p*q))):dV a b Q:=by
 obtain⟨fa,rfl,ka⟩:=ha
 obtain⟨fb,rfl,kb⟩:=hb
 exact uX fa fb ka kb hk (h (.of (qK ka kb) (by simp only[cap] at hk ⊢;omega)))
theorem Dw {a b:GRat} {p q:Rat} {k l:Nat} {K:GRat->Prop} (ha:Rp k a p) (hb:Rp l b q) (hk:k+l+1<=cap) (h:Rp (k+l) (bi (p*q)) (p*q)->K (bi (p*q))):cR (dV a b) K:=
 ⟨_,FF ha hb hk (λ_=>rfl),h (.of (qK ha.2.2 hb.2.2) (by simp only[cap] at hk ⊢;omega))⟩
theorem Hv {n:Int} {Q:GRat->Prop} (hn:rng n) (h:Rp 64 (bi (n:Rat)) (n:Rat)->Q (bi (n:Rat))):eK n Q:=qa hn (h (.of (lq hn) (by decide)))
theorem Hu {n:Int} {K:GRat->Prop} (hn:rng n) (h:Rp 64 (bi (n:Rat)) (n:Rat)->K (bi (n:Rat))):cR (eK n) K:=⟨_,qa hn rfl,h (.of (lq hn) (by decide))⟩
theorem HO {a b:GRat} {p q:Rat} {k l:Nat} {Q:GRat->Prop} (ha:Rp k a p) (hb:Rp l b q) (hk:k+l+1<=cap) (h:Rp (k+l+1) (bi (p+q)) (p+q)->Q (bi (p+q))):gN a b Q:=by
 obtain⟨fa,rfl,ka⟩:=ha
 obtain⟨fb,rfl,kb⟩:=hb
 exact tA fa fb ka kb hk (h (.of (qL ka kb) hk))
theorem D_ {a b:GRat} {p q:Rat} {k l:Nat} {K:GRat->Prop} (ha:Rp k a p) (hb:Rp l b q) (hk:k+l+1<=cap) (h:Rp (k+l+1) (bi (p+q)) (p+q)->K (bi (p+q))):cR (gN a b) K:=
 ⟨_,HO ha hb hk (λ_=>rfl),h (.of (qL ha.2.2 hb.2.2) hk)⟩
theorem Hb {a b:GRat} {p q:Rat} {k l:Nat} {Q:GRat->Prop} (ha:Rp k a p) (hb:Rp l b q) (hk:k+l+1<=cap) (h:Rp (k+l+1) (bi (p-q)) (p-q)->Q (bi (p-q))):i0 a b Q:=by
 obtain⟨fa,rfl,ka⟩:=ha
 obtain⟨fb,rfl,kb⟩:=hb
 exact tz fa fb ka kb hk (h (.of (tg ka kb) hk))
theorem Gh {a b:GRat} {p q:Rat} {k l:Nat} {K:GRat->Prop} (ha:Rp k a p) (hb:Rp l b q) (hk:k+l+1<=cap) (h:Rp (k+l+1) (bi (p-q)) (p-q)->K (bi (p-q))):cR (i0 a b) K:=
 ⟨_,Hb ha hb hk (λ_=>rfl),h (.of (tg ha.2.2 hb.2.2) hk)⟩
theorem Hx {a b:GRat} {p q:Rat} {k l:Nat} {Q:GRat->Prop} (ha:Rp k a p) (hb:Rp l b q) (hk:k+l+1<=cap) (h:Rp (k+l) (bi (p*q)) (p*q)->Q (bi (p*q))):i2 a b Q:=by
 obtain⟨fa,rfl,ka⟩:=ha
 obtain⟨fb,rfl,kb⟩:=hb
 exact yR fa fb ka kb hk (h (.of (qK ka kb) (by simp only[cap] at hk ⊢;omega)))
theorem Dv {a b:GRat} {p q:Rat} {k l:Nat} {K:GRat->Prop} (ha:Rp k a p) (hb:Rp l b q) (hk:k+l+1<=cap) (h:Rp (k+l) (bi (p*q)) (p*q)->K (bi (p*q))):cR (i2 a b) K:=
 ⟨_,Hx ha hb hk (λ_=>rfl),h (.of (qK ha.2.2 hb.2.2) (by simp only[cap] at hk ⊢;omega))⟩
theorem Gl {a:GRat} {p:Rat} {k:Nat} {Q:Int->Prop} (ha:Rp k a p) (h:Q (pP p)):h9 a Q:=by
 obtain⟨fa,rfl,ka⟩:=ha
 exact qY fa h
theorem Es {a:GRat} {p:Rat} {k:Nat} {K:Int->Prop} (ha:Rp k a p) (h:K (pP p)):cR (h9 a) K:=⟨_,Gl ha rfl,h⟩
theorem HN {a b:GRat} {p q:Rat} {k l:Nat} {Q:Int->Prop} (ha:Rp k a p) (hb:Rp l b q) (hk:k+l+1<=cap) (h:Q (pP (p-q))):j9 a b Q:=by
 obtain⟨fa,rfl,ka⟩:=ha
 obtain⟨fb,rfl,kb⟩:=hb
 exact yS fa fb ka kb hk h
theorem GR {a b:GRat} {p q:Rat} {k l:Nat} {K:Int->Prop} (ha:Rp k a p) (hb:Rp l b q) (hk:k+l+1<=cap) (h:K (pP (p-q))):cR (j9 a b) K:=⟨_,HN ha hb hk rfl,h⟩
theorem Id {n:Int} {Q:GRat->Prop} (hn:rng n) (h:Rp 64 (bi (n:Rat)) (n:Rat)->Q (bi (n:Rat))):iR n Q:=uQ hn (h (.of (lq hn) (by decide)))
theorem Fz {n:Int} {K:GRat->Prop} (hn:rng n) (h:Rp 64 (bi (n:Rat)) (n:Rat)->K (bi (n:Rat))):cR (iR n) K:=⟨_,uQ hn rfl,h (.of (lq hn) (by decide))⟩
theorem CK {a:GRat} {K:Bool->Prop} (fa:Fr a) (h:K (okR a)):cR (iA a) K:=⟨_,p7 fa rfl,h⟩
def gP (a:GRat):Bool:=okR a && (decide (0<=cb a) && decide (cb a<=1))
theorem Af {q:Rat}:q<=1↔q.num<=(q.den:Int):=by
 rw[Rat.le_iff]
 simp
theorem og {a:GRat} {Q:Bool->Prop} (fa:Fr a) (h:Q (gP a)):iJ a Q:=by
 refine nj fa (bk (λhc=>?_) (λhc=>?_))
 ·unfold gP at h
  rw[hc,Bool.true_and] at h
  have e:=sI hc
  generalize cb a=q at e h
  subst e
  by_cases hz:q.num=0
  ·have hq:q=0:=Rat.num_eq_zero.1 hz
   subst hq
   refine bk (λ_=>gr (a:=[]) (b:=[]) (λi=>by simp) (λi=>by simp) (by simp) (by simp) ?_) (λhh=>by cases hh)
   exact h
  ·have e2:bi q=⟨decide (q.num<0),lim q.num.natAbs,lim q.den⟩:=by unfold bi;rw[if_neg hz]
   rw[e2] at fa ⊢
   refine bk (λhn=>?_) (λhn=>?_)
   ·simp only[Bool.not_eq_true',decide_eq_false_iff_not] at hn
    refine gr fa.1 fa.2.1 (Nat.le_trans fa.2.2.1 om) (Nat.le_trans fa.2.2.2 om) ?_
    have e3:(decide (0<=q) && decide (q<=1))=decide (n8 (val (lim q.num.natAbs)) (val (lim q.den))<=0):=by
     rw[bb,bb,decide_eq_true (Rat.num_nonneg.1 om),Bool.true_and]
     refine decide_eq_decide.2 ?_
     rw[Af]
     have:=@ya q.num.natAbs q.den
     omega
    rw[e3] at h
    exact h
   ·simp only[Bool.not_eq_false',decide_eq_true_eq] at hn
    rw[decide_eq_false (λhh=>by have:=Rat.num_nonneg.2 hh;omega),Bool.false_and] at h
    exact h
 ·unfold gP at h
  rw[hc,Bool.false_and] at h
  exact h
theorem xG {a:GRat} {k:Nat} {Q:Bool->Prop} (fa:Fr a) (ka:RB k (cb a)) (hk:k+65<=cap) (h:Q (gP a)):nN a Q:=by
 unfold gP at h
 refine CK fa (bk (λhc=>?_) (λhc=>?_))
 ·rw[hc,Bool.true_and] at h
  refine Es (.self fa ka) (condT (λh0=>?_) (λh0=>?_))
  ·rw[decide_eq_true (oL.1 h0),Bool.true_and] at h
   refine Fz (by unfold rng;omega) λh1=>GR (.self fa ka) h1 (by simp only[cap] at hk ⊢;omega) ?_
   have e:decide (pP (cb a-((1:Int):Rat))<=0)=decide (cb a<=1):=decide_eq_decide.2 (by rw[yL];exact yD)
   rw[e];exact h
  ·rw[decide_eq_false (λhh=>h0 (oL.2 hh)),Bool.false_and] at h
   exact h
 ·rw[hc,Bool.false_and] at h
  exact h
end Go.Gg
namespace Go.Gg
end Go.Gg
namespace Go.Gg
abbrev Asg:=Nat->Bool
def cE (σ:Asg) (v:Nat) (b:Bool):Asg:=λi=>if i=v then b else σ i
theorem fD {σ:Asg} {v:Nat} {b:Bool}:cE σ v b v=b:=by simp[cE]
theorem gB {σ:Asg} {v i:Nat} {b:Bool} (h:i≠v):cE σ v b i=σ i:=by simp[cE,h]
theorem uf {σ:Asg} {v:Nat}:cE σ v (σ v)=σ:=by
 funext i
 by_cases h:i=v
 ·subst h;exact fD
 ·exact gB h
theorem A0 {α:Type} {P:List α->Prop} (h0:P []) (h1:∀l x,P l->P (l++[x])) (l:List α):P l:=by
 have h:∀m:List α,P m.reverse:=by
  intro m
  induction m with
  | nil=>exact h0
  | cons x m ih=>rw[List.reverse_cons];exact h1 _ _ ih
 have:=h l.reverse
 rwa[List.reverse_reverse] at this
def zE (N:List GDNode) (σ:Asg):List Bool:=N.foldl (λacc x=>acc++[bif σ x.Var.toNat then acc.getD x.Hi.toNat false else acc.getD x.Lo.toNat false]) [false,true]
def den (N:List GDNode) (σ:Asg) (r:Nat):Bool:=(zE N σ).getD r false
theorem qE {N:List GDNode} {x:GDNode} {σ:Asg}:zE (N++[x]) σ=zE N σ++[bif σ x.Var.toNat then den N σ x.Hi.toNat else den N σ x.Lo.toNat]:=by
 simp[zE,den,List.foldl_append]
theorem sY {σ:Asg} (N:List GDNode):(zE N σ).length=2+N.length:=by
 induction N using A0 with
 | h0=>rfl
 | h1 N x ih=>rw[qE,List.length_append,ih,List.length_append];simp;omega
theorem zG {N:List GDNode} {x:GDNode} {σ:Asg} {r:Nat} (h:r<2+N.length):den (N++[x]) σ r=den N σ r:=by
 unfold den
 rw[qE,List.getD_eq_getElem?_getD,List.getD_eq_getElem?_getD,List.getElem?_append_left (by rw[sY];exact h)]
theorem gG {σ:Asg} {r:Nat} {N:List GDNode} (M:List GDNode) (h:r<2+N.length):den (N++M) σ r=den N σ r:=by
 induction M using A0 with
 | h0=>simp
 | h1 M x ih=>rw[<-List.append_assoc,zG (by rw[List.length_append];omega),ih]
theorem DS {N:List GDNode} {x:GDNode} {σ:Asg}:den (N++[x]) σ (2+N.length)=bif σ x.Var.toNat then den N σ x.Hi.toNat else den N σ x.Lo.toNat:=by
 conv=>lhs;unfold den
 rw[qE,List.getD_eq_getElem?_getD,List.getElem?_append_right (by rw[sY];omega),sY]
 simp
theorem vQ {N:List GDNode} {i:Nat} {x:GDNode} {σ:Asg} (hx:N[i]? = some x) (hl:x.Lo.toNat<2+i) (hh:x.Hi.toNat<2+i):den N σ (2+i)=bif σ x.Var.toNat then den N σ x.Hi.toNat else den N σ x.Lo.toNat:=by
 obtain⟨hi,rfl⟩:=List.getElem?_eq_some_iff.1 hx
 have hlen:(N.take i).length=i:=by simp;omega
 have e:N=(N.take i++[N[i]])++N.drop (i+1):=by simp
 have hd:∀r,r<2+i->den N σ r=den (N.take i) σ r:=λr hr=>by
  conv=>lhs;rw[e]
  rw[gG _ (by rw[List.length_append,hlen];omega),zG (by rw[hlen];exact hr)]
 rw[hd _ hl,hd _ hh]
 conv=>lhs;rw[e]
 rw[gG _ (by rw[List.length_append,hlen];simp)]
 have:=DS (N:=N.take i) (x:=N[i]) (σ:=σ)
 rw[hlen] at this
 exact this
theorem gX {N:List GDNode} {σ:Asg}:den N σ 0=false:=by
 have:=gG (σ:=σ) (r:=0) (N:=[]) N (by simp)
 exact this.trans rfl
theorem jr {N:List GDNode} {σ:Asg}:den N σ 1=true:=by
 have:=gG (σ:=σ) (r:=1) (N:=[]) N (by simp)
 exact this.trans rfl
def lvl (n:Nat) (lev:Nat->Nat) (N:List GDNode) (r:Nat):Nat:=if r<2 then n else match N[r-2]? with | some x=>lev x.Var.toNat | none=>n
theorem iS {n:Nat} {lev:Nat->Nat} {N:List GDNode} {r:Nat} (h:r<2):lvl n lev N r=n:=by simp[lvl,h]
theorem nX {n:Nat} {lev:Nat->Nat} {N:List GDNode} {i:Nat} {x:GDNode} (h:N[i]? = some x):lvl n lev N (2+i)=lev x.Var.toNat:=by
 have:¬2+i<2:=om
 simp[lvl,this,show 2+i-2=i by omega,h]
theorem rE {n:Nat} {lev:Nat->Nat} {N:List GDNode} (M:List GDNode) {r:Nat} (h:r<2+N.length):lvl n lev (N++M) r=lvl n lev N r:=by
 unfold lvl
 by_cases h2:r<2
 ·rw[if_pos h2,if_pos h2]
 ·rw[if_neg h2,if_neg h2,List.getElem?_append_left om]
structure LV (n:Nat) (lev:Nat->Nat):Prop where
 inj:∀i j,i<n->j<n->lev i=lev j->i=j
 lt:∀i,i<n->lev i<n
structure Nd (n:Nat) (lev:Nat->Nat) (N:List GDNode) (i:Nat) (x:GDNode):Prop where
 var:0<=x.Var/\x.Var<n
 lo:0<=x.Lo/\x.Lo<2+i
 hi:0<=x.Hi/\x.Hi<2+i
 ne:x.Lo≠x.Hi
 llo:lev x.Var.toNat<lvl n lev N x.Lo.toNat
 lhi:lev x.Var.toNat<lvl n lev N x.Hi.toNat
structure WT (n:Nat) (lev:Nat->Nat) (N:List GDNode):Prop where
 nd:∀(i:Nat) (x:GDNode),N[i]? = some x->Nd n lev N i x
 dis:∀(i j:Nat) (x:GDNode),N[i]? = some x->N[j]? = some x->i=j
section
variable {n:Nat} {lev:Nat->Nat} {N:List GDNode}
theorem WT.nil:WT n lev []:=⟨λi x h=>by simp at h,λi j x h=>by simp at h⟩
theorem iY {r:Nat} (h:r<2+N.length):r=0\/r=1\/∃i x,r=2+i/\N[i]? = some x:=by
 by_cases h0:r=0
 ·exact .inl h0
 by_cases h1:r=1
 ·exact .inr (.inl h1)
 ·exact .inr (.inr ⟨r-2,N[r-2]'om,by omega,List.getElem?_eq_getElem om⟩)
theorem WT.den_at (h:WT n lev N) {i:Nat} {x:GDNode} (hx:N[i]? = some x) (σ:Asg):den N σ (2+i)=bif σ x.Var.toNat then den N σ x.Hi.toNat else den N σ x.Lo.toNat:=by
 obtain⟨_,b,c,_,_,_⟩:=h.nd i x hx
 exact vQ hx om om
theorem WT.den_set (h:WT n lev N) {v:Nat} {b:Bool}:∀ {r:Nat},r<2+N.length->lev v<lvl n lev N r->∀σ,den N (cE σ v b) r=den N σ r:=by
 intro r
 induction r using Nat.strongRecOn with
 | _ r ih=>
  intro hr hv σ
  rcases iY hr with rfl | rfl | ⟨i,x,rfl,hx⟩
  ·rw[gX,gX]
  ·rw[jr,jr]
  ·obtain⟨a,b',c,_,e,f⟩:=h.nd i x hx
   have hi:=(List.getElem?_eq_some_iff.1 hx).1
   rw[nX hx] at hv
   have hne:x.Var.toNat≠v:=λhc=>by rw[hc] at hv;omega
   rw[h.den_at hx,h.den_at hx,gB hne,ih x.Hi.toNat om om om,ih x.Lo.toNat om om om]
theorem WT.lvl_le (hL:LV n lev) (h:WT n lev N) {r:Nat}:lvl n lev N r<=n:=by
 unfold lvl
 split
 ·exact Nat.le_refl _
 ·split
  ·rename_i x hx
   obtain⟨a,_,_,_,_,_⟩:=h.nd _ x hx
   exact Nat.le_of_lt (hL.lt _ om)
  ·exact Nat.le_refl _
theorem WT.den_cof (h:WT n lev N) {i:Nat} {x:GDNode} (hx:N[i]? = some x) (σ:Asg) (b:Bool):den N (cE σ x.Var.toNat b) (2+i)=den N σ (bif b then x.Hi.toNat else x.Lo.toNat):=by
 obtain⟨_,b',c,_,e,f⟩:=h.nd i x hx
 have hi:=(List.getElem?_eq_some_iff.1 hx).1
 rw[h.den_at hx,fD]
 cases b
 ·exact h.den_set om e σ
 ·exact h.den_set om f σ
theorem WT.canon (hL:LV n lev) (h:WT n lev N) {r s:Nat} (hr:r<2+N.length) (hs:s<2+N.length) (he:∀σ,den N σ r=den N σ s):r=s:=by
 have key:∀b r s,r<b->s<b->r<2+N.length->s<2+N.length->(∀σ,den N σ r=den N σ s)->r=s:=by
  intro b
  induction b with
  | zero=>intro r s h1;omega
  | succ b ih=>
   have step:∀i x s,N[i]? = some x->2+i<b+1->s<2+N.length->lev x.Var.toNat<lvl n lev N s->(∀σ,den N σ (2+i)=den N σ s)->False:=by
    intro i x s hx hib hs hl he
    obtain⟨a,b',c,d,e,f⟩:=h.nd i x hx
    have hi:=(List.getElem?_eq_some_iff.1 hx).1
    have:x.Lo.toNat=x.Hi.toNat:=ih _ _ om om om om λσ=>by
     have h1:=h.den_cof hx σ false
     have h2:=h.den_cof hx σ true
     rw[he,h.den_set hs hl] at h1 h2
     exact h1.symm.trans h2
    omega
   intro r s h1 h2 hr hs he
   rcases iY hr with rfl | rfl | ⟨i,x,rfl,hx⟩
   ·rcases iY hs with rfl | rfl | ⟨j,y,rfl,hy⟩
    ·rfl
    ·have:=he (λ_=>false);rw[gX,jr] at this;cases this
    ·exact(step j y 0 hy h2 hr (by rw[iS om];exact hL.lt _ (by have:=(h.nd j y hy).var;omega)) (λσ=>(he σ).symm)).elim
   ·rcases iY hs with rfl | rfl | ⟨j,y,rfl,hy⟩
    ·have:=he (λ_=>false);rw[gX,jr] at this;cases this
    ·rfl
    ·exact(step j y 1 hy h2 hr (by rw[iS om];exact hL.lt _ (by have:=(h.nd j y hy).var;omega)) (λσ=>(he σ).symm)).elim
   ·by_cases hl:lev x.Var.toNat<lvl n lev N s
    ·exact(step i x s hx h1 hs hl he).elim
    ·rcases iY hs with rfl | rfl | ⟨j,y,rfl,hy⟩
     ·exact(hl (by rw[iS om];exact hL.lt _ (by have:=(h.nd i x hx).var;omega))).elim
     ·exact(hl (by rw[iS om];exact hL.lt _ (by have:=(h.nd i x hx).var;omega))).elim
     ·by_cases hl2:lev y.Var.toNat<lvl n lev N (2+i)
      ·exact(step j y (2+i) hy h2 hr hl2 (λσ=>(he σ).symm)).elim
      ·rw[nX hx] at hl2
       rw[nX hy] at hl
       obtain⟨a,b',c,d,e,f⟩:=h.nd i x hx
       obtain⟨a2,b2,c2,d2,e2,f2⟩:=h.nd j y hy
       have hi:=(List.getElem?_eq_some_iff.1 hx).1
       have hj:=(List.getElem?_eq_some_iff.1 hy).1
       have hv:x.Var.toNat=y.Var.toNat:=hL.inj _ _ om om om
       have q1:x.Lo.toNat=y.Lo.toNat:=ih _ _ om om om om λσ=>by
        have p1:=h.den_cof hx σ false
        have p2:=h.den_cof hy σ false
        rw[hv,he] at p1
        exact p1.symm.trans p2
       have q2:x.Hi.toNat=y.Hi.toNat:=ih _ _ om om om om λσ=>by
        have p1:=h.den_cof hx σ true
        have p2:=h.den_cof hy σ true
        rw[hv,he] at p1
        exact p1.symm.trans p2
       have hxy:x=y:=by
        cases x;cases y
        simp only[GDNode.mk.injEq]
        simp only at *
        omega
       subst hxy
       rw[h.dis i j x hx hy]
 exact key (max r s+1) r s om om hr hs he
theorem WT.snoc (h:WT n lev N) {x:GDNode} (hv:0<=x.Var/\x.Var<n) (hlo:0<=x.Lo/\x.Lo<2+N.length) (hhi:0<=x.Hi/\x.Hi<2+N.length) (hne:x.Lo≠x.Hi) (h1:lev x.Var.toNat<lvl n lev N x.Lo.toNat) (h2:lev x.Var.toNat<lvl n lev N x.Hi.toNat)
  (hnew:x∉N):WT n lev (N++[x]):=by
 refine⟨λi y hy=>?_,λi j y hi hj=>?_⟩
 ·rcases Nat.lt_or_ge i N.length with hi | hi
  ·rw[List.getElem?_append_left hi] at hy
   obtain⟨a,b,c,d,e,f⟩:=h.nd i y hy
   exact⟨a,b,c,d,by rw[rE _ om];exact e,by rw[rE _ om];exact f⟩
  ·have hil:i<(N++[x]).length:=(List.getElem?_eq_some_iff.1 hy).1
   simp only[List.length_append,List.length_singleton] at hil
   obtain rfl:i=N.length:=om
   rw[List.getElem?_append_right (Nat.le_refl _)] at hy
   simp at hy
   subst hy
   exact⟨hv,hlo,hhi,hne,by rw[rE _ om];exact h1,by rw[rE _ om];exact h2⟩
 ·have hil:i<(N++[x]).length:=(List.getElem?_eq_some_iff.1 hi).1
  have hjl:j<(N++[x]).length:=(List.getElem?_eq_some_iff.1 hj).1
  simp only[List.length_append,List.length_singleton] at hil hjl
  by_cases hi':i<N.length
  ·rw[List.getElem?_append_left hi'] at hi
   by_cases hj':j<N.length
   ·rw[List.getElem?_append_left hj'] at hj
    exact h.dis i j y hi hj
   ·obtain rfl:j=N.length:=om
    rw[List.getElem?_append_right (Nat.le_refl _)] at hj
    simp at hj
    subst hj
    exact absurd (List.mem_of_getElem? hi) hnew
  ·obtain rfl:i=N.length:=om
   rw[List.getElem?_append_right (Nat.le_refl _)] at hi
   simp at hi
   subst hi
   by_cases hj':j<N.length
   ·rw[List.getElem?_append_left hj'] at hj
    exact absurd (List.mem_of_getElem? hj) hnew
   ·omega
end
end Go.Gg
namespace Go.Gg
instance:DecidableEq GDNode:=λa b=>decidable_of_iff (a.Var=b.Var/\a.Lo=b.Lo/\a.Hi=b.Hi) (by cases a;cases b;simp)
def mkD (v lo hi:Nat) (N:List GDNode):List GDNode×Nat:=
 if lo=hi then (N,lo) else if (⟨v,lo,hi⟩:GDNode)∈N then (N,2+N.idxOf ⟨v,lo,hi⟩) else (N++[⟨v,lo,hi⟩],2+N.length)
def dx:List Nat->(Asg->Bool)->List GDNode->List GDNode×Nat
 | [],f,N=>(N,if f (λ_=>false)=true then 1 else 0)
 | v :: vs,f,N=>mkD v (dx vs (λσ=>f (cE σ v false)) N).2 (dx vs (λσ=>f (cE σ v true)) (dx vs (λσ=>f (cE σ v false)) N).1).2 (dx vs (λσ=>f (cE σ v true)) (dx vs (λσ=>f (cE σ v false)) N).1).1
def Dep (f:Asg->Bool) (vs:List Nat):Prop:=∀σ σ':Asg,(∀v∈vs,σ v=σ' v)->f σ=f σ'
structure OrdL (n:Nat) (lev:Nat->Nat) (ord:List Nat):Prop where
 lv:LV n lev
 len:ord.length=n
 at_:∀i v,ord[i]? = some v->v<n/\lev v=i
 of:∀v,v<n->ord[lev v]? = some v
theorem OrdL.drop {n:Nat} {lev:Nat->Nat} {ord:List Nat} (h:OrdL n lev ord) {v:Nat} (hv:v<n):ord.drop (lev v)=v :: ord.drop (lev v+1):=by
 have h1:=h.of v hv
 obtain⟨hl,he⟩:=List.getElem?_eq_some_iff.1 h1
 rw[List.drop_eq_getElem_cons hl,he]
theorem OrdL.mem {n:Nat} {lev:Nat->Nat} {ord:List Nat} (h:OrdL n lev ord) {l v:Nat}:v∈ord.drop l↔v<n/\l<=lev v:=by
 constructor
 ·intro hm
  obtain⟨i,hi⟩:=List.mem_iff_getElem?.1 hm
  rw[List.getElem?_drop] at hi
  obtain⟨a,b⟩:=h.at_ _ _ hi
  exact⟨a,by omega⟩
 ·rintro⟨hv,hl⟩
  refine List.mem_iff_getElem?.2 ⟨lev v-l,?_⟩
  rw[List.getElem?_drop,show l+(lev v-l)=lev v by omega]
  exact h.of v hv
theorem Dep.sub {f:Asg->Bool} {vs ws:List Nat} (h:Dep f vs) (hs:∀v∈vs,v∈ws):Dep f ws:=λσ σ' hh=>h σ σ' λv hv=>hh v (hs v hv)
theorem Dep.set {f:Asg->Bool} {v:Nat} {vs:List Nat} {b:Bool} (h:Dep f (v :: vs)):Dep (λσ=>f (cE σ v b)) vs:=λσ σ' hh=>h _ _ λw hw=>by
 by_cases he:w=v
 ·subst he;rw[fD,fD]
 ·rw[gB he,gB he];exact hh w ((List.mem_cons.1 hw).resolve_left he)
theorem Dep.not {f:Asg->Bool} {v:Nat} {vs:List Nat} (h:Dep f vs) (hv:v∉vs) (σ:Asg) (b:Bool):f (cE σ v b)=f σ:=h _ _ λ_w hw=>gB (λhe=>hv (he▸hw))
section
variable {n:Nat} {lev:Nat->Nat} {ord:List Nat} {N:List GDNode}
theorem WT.dep (hO:OrdL n lev ord) (h:WT n lev N) {r:Nat} (hr:r<2+N.length):Dep (λσ=>den N σ r) (ord.drop (lvl n lev N r)):=by
 induction r using Nat.strongRecOn with
 | _ r ih=>
  rcases iY hr with rfl | rfl | ⟨i,x,rfl,hx⟩
  ·exact λσ σ' _=>by simp only[gX]
  ·exact λσ σ' _=>by simp only[jr]
  ·obtain⟨a,b,c,d,e,f⟩:=h.nd i x hx
   have hi:=(List.getElem?_eq_some_iff.1 hx).1
   intro σ σ' hh
   rw[nX hx] at hh
   simp only[h.den_at hx]
   rw[hh x.Var.toNat (hO.mem.2 ⟨by omega,Nat.le_refl _⟩)]
   have q1:=ih x.Lo.toNat om om σ σ' (λv hv=>hh v (hO.mem.2 ⟨(hO.mem.1 hv).1,by have:=(hO.mem.1 hv).2;omega⟩))
   have q2:=ih x.Hi.toNat om om σ σ' (λv hv=>hh v (hO.mem.2 ⟨(hO.mem.1 hv).1,by have:=(hO.mem.1 hv).2;omega⟩))
   simp only at q1 q2
   rw[q1,q2]
theorem WT.top (hO:OrdL n lev ord) (h:WT n lev N) {i:Nat} {x:GDNode} (hx:N[i]? = some x) (hd:∀σ b,den N (cE σ x.Var.toNat b) (2+i)=den N σ (2+i)):False:=by
 obtain⟨a,b,c,d,e,f⟩:=h.nd i x hx
 have hi:=(List.getElem?_eq_some_iff.1 hx).1
 have:=h.canon hO.lv (r:=x.Lo.toNat) (s:=x.Hi.toNat) om om λσ=>by
  have h1:=h.den_cof hx σ false
  have h2:=h.den_cof hx σ true
  rw[hd] at h1 h2
  exact h1.symm.trans h2
 omega
theorem WT.lvl_ge (hO:OrdL n lev ord) (h:WT n lev N) {r l:Nat} (hr:r<2+N.length) (hl:l<=n) (hd:Dep (λσ=>den N σ r) (ord.drop l)):l<=lvl n lev N r:=by
 rcases iY hr with rfl | rfl | ⟨i,x,rfl,hx⟩
 ·rw[iS om];exact hl
 ·rw[iS om];exact hl
 ·rw[nX hx]
  rcases Nat.lt_or_ge (lev x.Var.toNat) l with hlt | hge
  ·exfalso
   refine h.top hO hx λσ b=>hd.not (λhm=>?_) σ b
   have:=(hO.mem.1 hm).2
   omega
  ·exact hge
theorem nC (hO:OrdL n lev ord) (h:WT n lev N):∀(k l:Nat),l+k=n->∀ {f:Asg->Bool} {r:Nat},Dep f (ord.drop l)->r<2+N.length->(∀σ,den N σ r=f σ)->dx (ord.drop l) f N=(N,r)
 | 0,l,hk,f,r,hd,hr,hf=>by
  have e:ord.drop l=[]:=List.drop_eq_nil_of_le (by rw[hO.len];omega)
  rw[e] at hd ⊢
  have hc:∀σ,den N σ r=f (λ_=>false):=λσ=>(hf σ).trans (hd _ _ (λv hv=>by simp at hv))
  rw[dx]
  cases hb:f (λ_=>false) with
  | true=>
   rw[if_pos rfl,h.canon hO.lv (r:=r) (s:=1) hr om (λσ=>by rw[hc,hb,jr])]
  | false=>
   rw[if_neg (by simp),h.canon hO.lv (r:=r) (s:=0) hr om (λσ=>by rw[hc,hb,gX])]
 | k+1,l,hk,f,r,hd,hr,hf=>by
  have hl:l<ord.length:=by rw[hO.len];omega
  have hdr:ord.drop l=ord[l] :: ord.drop (l+1):=List.drop_eq_getElem_cons hl
  generalize hv:ord[l]=v at hdr
  have hat:=hO.at_ l v (by rw[List.getElem?_eq_getElem hl,hv])
  rw[hdr] at hd ⊢
  have hdN:Dep (λσ=>den N σ r) (ord.drop l):=by
   rw[hdr]
   exact λσ σ' hh=>by simp only[hf];exact hd σ σ' hh
  have hge:=h.lvl_ge hO hr om hdN
  rw[dx]
  by_cases hlt:l<lvl n lev N r
  ·have hfs:∀b σ,den N σ r=f (cE σ v b):=λb σ=>by
    rw[<-hf,h.den_set hr (by rw[hat.2];exact hlt)]
   rw[nC hO h k (l+1) om (r:=r) hd.set hr (hfs false),nC hO h k (l+1) om (r:=r) hd.set hr (hfs true)]
   simp[mkD]
  ·have hle:lvl n lev N r=l:=om
   rcases iY hr with rfl | rfl | ⟨i,x,rfl,hx⟩
   ·rw[iS om] at hle;omega
   ·rw[iS om] at hle;omega
   ·obtain⟨a,b,c,d,e,f'⟩:=h.nd i x hx
    have hi:=(List.getElem?_eq_some_iff.1 hx).1
    rw[nX hx] at hle
    have hxv:x.Var.toNat=v:=hO.lv.inj _ _ om hat.1 (by rw[hle,hat.2])
    have h1:∀σ,den N σ x.Lo.toNat=f (cE σ v false):=λσ=>by rw[<-hf,<-hxv];exact(h.den_cof hx σ false).symm
    have h2:∀σ,den N σ x.Hi.toNat=f (cE σ v true):=λσ=>by rw[<-hf,<-hxv];exact(h.den_cof hx σ true).symm
    rw[nC hO h k (l+1) om (r:=x.Lo.toNat) hd.set om h1,nC hO h k (l+1) om (r:=x.Hi.toNat) hd.set om h2]
    have hxe:(⟨(v:Int),((x.Lo.toNat:Nat):Int),((x.Hi.toNat:Nat):Int)⟩:GDNode)=x:=by
     cases x
     simp only[GDNode.mk.injEq]
     simp only at *
     omega
    have hm:x∈N:=List.mem_of_getElem? hx
    have hix:N.idxOf x=i:=by
     have hlt':N.idxOf x<N.length:=List.idxOf_lt_length_of_mem hm
     exact h.dis _ _ x (by rw[List.getElem?_eq_getElem hlt',List.getElem_idxOf]) hx
    simp only[mkD]
    rw[if_neg om,hxe,if_pos hm,hix]
theorem nB (hO:OrdL n lev ord):∀(k l:Nat),l+k=n->∀ {f:Asg->Bool} {N:List GDNode},WT n lev N->Dep f (ord.drop l)->
  WT n lev (dx (ord.drop l) f N).1/\(∃M,(dx (ord.drop l) f N).1=N++M)/\(dx (ord.drop l) f N).2<2+(dx (ord.drop l) f N).1.length/\∀σ,den (dx (ord.drop l) f N).1 σ (dx (ord.drop l) f N).2=f σ
 | 0,l,hk,f,N,h,hd=>by
  have e:ord.drop l=[]:=List.drop_eq_nil_of_le (by rw[hO.len];omega)
  rw[e] at hd ⊢
  rw[dx]
  refine⟨h,⟨[],by simp⟩,?_,λσ=>?_⟩
  ·simp only;split<;>omega
  ·simp only
   rw[hd σ (λ_=>false) (λv hv=>by simp at hv)]
   split
   ·rename_i hb;rw[jr,hb]
   ·rename_i hb;rw[gX];simpa using hb
 | k+1,l,hk,f,N,h,hd=>by
  have hl:l<ord.length:=by rw[hO.len];omega
  have hdr:ord.drop l=ord[l] :: ord.drop (l+1):=List.drop_eq_getElem_cons hl
  generalize hv:ord[l]=v at hdr
  have hat:=hO.at_ l v (by rw[List.getElem?_eq_getElem hl,hv])
  rw[hdr] at hd ⊢
  obtain⟨a1,⟨M1,a2⟩,a3,a4⟩:=nB hO k (l+1) om (f:=λσ=>f (cE σ v false)) h hd.set
  generalize hA:dx (ord.drop (l+1)) (λσ=>f (cE σ v false)) N=A at a1 a2 a3 a4
  obtain⟨b1,⟨M2,b2⟩,b3,b4⟩:=nB hO k (l+1) om (f:=λσ=>f (cE σ v true)) a1 hd.set
  generalize hB:dx (ord.drop (l+1)) (λσ=>f (cE σ v true)) A.1=B at b1 b2 b3 b4
  rw[dx,hA,hB]
  have a3':A.2<2+B.1.length:=by rw[b2,List.length_append];omega
  have a4':∀σ,den B.1 σ A.2=f (cE σ v false):=λσ=>by rw[b2,gG _ a3,a4]
  have hla:l+1<=lvl n lev B.1 A.2:=b1.lvl_ge hO a3' om (λσ σ' hh=>by simp only[a4'];exact hd.set σ σ' hh)
  have hlb:l+1<=lvl n lev B.1 B.2:=b1.lvl_ge hO b3 om (λσ σ' hh=>by simp only[b4];exact hd.set σ σ' hh)
  have hdec:∀σ,f σ=bif σ v then f (cE σ v true) else f (cE σ v false):=λσ=>by
   cases hs:σ v
   ·rw[show cE σ v false=σ by rw[<-hs];exact uf];rfl
   ·rw[show cE σ v true=σ by rw[<-hs];exact uf];rfl
  unfold mkD
  split
  ·rename_i heq
   refine⟨b1,⟨M1++M2,by rw[b2,a2,List.append_assoc]⟩,a3',λσ=>?_⟩
   rw[hdec]
   cases hs:σ v
   ·exact a4' σ
   ·have:=b4 σ;rw[<-heq] at this;exact this
  ·rename_i hne
   have hval:∀(N':List GDNode) (i:Nat) σ,N'[i]? = some (⟨(v:Int),(A.2:Int),(B.2:Int)⟩:GDNode)->(∃M,N'=B.1++M)->A.2<2+i->B.2<2+i->den N' σ (2+i)=f σ:=by
    rintro N' i σ hi ⟨M,rfl⟩ ha hb
    rw[vQ hi (by simpa using ha) (by simpa using hb)]
    simp only[Int.toNat_natCast]
    rw[gG _ a3',gG _ b3,a4',b4]
    exact(hdec σ).symm
   split
   ·rename_i hm
    have hlt:B.1.idxOf (⟨(v:Int),(A.2:Int),(B.2:Int)⟩:GDNode)<B.1.length:=List.idxOf_lt_length_of_mem hm
    have hget:B.1[B.1.idxOf (⟨(v:Int),(A.2:Int),(B.2:Int)⟩:GDNode)]? = some (⟨(v:Int),(A.2:Int),(B.2:Int)⟩:GDNode):=by rw[List.getElem?_eq_getElem hlt,List.getElem_idxOf]
    obtain⟨_,c1,c2,_⟩:=b1.nd _ _ hget
    simp only at c1 c2
    exact⟨b1,⟨M1++M2,by rw[b2,a2,List.append_assoc]⟩,by simp only;omega,λσ=>hval B.1 _ σ hget ⟨[],by simp⟩ om om⟩
   ·rename_i hm
    refine⟨b1.snoc ⟨by simp,by simp only;omega⟩ ⟨by simp,by simp only;omega⟩ ⟨by simp,by simp only;omega⟩ (by simp only;omega) (by simp only[Int.toNat_natCast];rw[hat.2];omega) (by simp only[Int.toNat_natCast];rw[hat.2];omega) hm,
     ⟨M1++M2++[⟨(v:Int),(A.2:Int),(B.2:Int)⟩],by rw[b2,a2];simp⟩,by simp,λσ=>hval _ _ σ (by simp) ⟨_,rfl⟩ a3' b3⟩
theorem Cr (hO:OrdL n lev ord) (h:WT n lev N) {f:Asg->Bool} {l:Nat} (hl:l<n) (hd:Dep f (ord.drop (l+1))):dx (ord.drop l) f N=dx (ord.drop (l+1)) f N:=by
 have hl':l<ord.length:=by rw[hO.len];omega
 have hdr:ord.drop l=ord[l] :: ord.drop (l+1):=List.drop_eq_getElem_cons hl'
 generalize hv:ord[l]=v at hdr
 have hat:=hO.at_ l v (by rw[List.getElem?_eq_getElem hl',hv])
 have hf:∀b,(λσ=>f (cE σ v b))=f:=λb=>by
  funext σ
  exact hd.not (λhm=>by have:=(hO.mem.1 hm).2;omega) σ b
 obtain⟨a1,_,a3,a4⟩:=nB hO (n-(l+1)) (l+1) om h hd
 rw[hdr,dx,hf,hf,nC hO a1 (n-(l+1)) (l+1) om hd a3 a4]
 simp[mkD]
theorem qJ (hO:OrdL n lev ord) (h:WT n lev N) {f:Asg->Bool}:∀(k l:Nat),l+k<=n->Dep f (ord.drop (l+k))->dx (ord.drop l) f N=dx (ord.drop (l+k)) f N
 | 0,l,_,_=>rfl
 | k+1,l,hk,hd=>by
  rw[Cr hO h om (hd.sub λv hv=>hO.mem.2 ⟨(hO.mem.1 hv).1,by have:=(hO.mem.1 hv).2;omega⟩),qJ hO h k (l+1) om (by rw[show l+1+k=l+(k+1) by omega];exact hd),show l+1+k=l+(k+1) by omega]
theorem Cs (hO:OrdL n lev ord) (h:WT n lev N) {f:Asg->Bool} {v:Nat} (hv:v<n) (hd:Dep f (ord.drop (lev v))) :
  dx ord f N=mkD v (dx ord (λσ=>f (cE σ v false)) N).2 (dx ord (λσ=>f (cE σ v true)) (dx ord (λσ=>f (cE σ v false)) N).1).2 (dx ord (λσ=>f (cE σ v true)) (dx ord (λσ=>f (cE σ v false)) N).1).1:=by
 have hlt:=hO.lv.lt v hv
 have hd2:∀b,Dep (λσ=>f (cE σ v b)) (ord.drop (lev v+1)):=λb=>by
  rw[hO.drop hv] at hd
  exact hd.set
 have e:∀(g:Asg->Bool) (N:List GDNode),WT n lev N->Dep g (ord.drop (lev v+1))->dx ord g N=dx (ord.drop (lev v+1)) g N:=λg N hN hg=>by
  have:=qJ hO hN (f:=g) (lev v+1) 0 om (by simpa using hg)
  simpa using this
 have h0:dx ord f N=dx (ord.drop (lev v)) f N:=by
  have:=qJ hO h (f:=f) (lev v) 0 om (by simpa using hd)
  simpa using this
 obtain⟨a1,_⟩:=nB hO (n-(lev v+1)) (lev v+1) om h (hd2 false)
 rw[h0,hO.drop hv,dx,e _ N h (hd2 false),e _ _ a1 (hd2 true)]
theorem si (hO:OrdL n lev ord) (h:WT n lev N) {f:Asg->Bool} (hd:Dep f ord):WT n lev (dx ord f N).1/\(∃M,(dx ord f N).1=N++M)/\(dx ord f N).2<2+(dx ord f N).1.length/\∀σ,den (dx ord f N).1 σ (dx ord f N).2=f σ:=by
 have:=nB hO n 0 om (f:=f) h (by simpa using hd)
 simpa using this
theorem Eb (hO:OrdL n lev ord) (h:WT n lev N) {f:Asg->Bool} {r:Nat} (hd:Dep f ord) (hr:r<2+N.length) (hf:∀σ,den N σ r=f σ):dx ord f N=(N,r):=by
 have:=nC hO h n 0 om (f:=f) (r:=r) (by simpa using hd) hr hf
 simpa using this
end
end Go.Gg
namespace Go.Gg
def Gz (N:List GDNode):Nat->Nat->List Int->List Int
 | 0,_,b=>b
 | fu+1,r,b=>if r<2\/(r:Int)∈b then b else match N[r-2]? with
  | none=>b
  | some x=>Gz N fu x.Hi.toNat (Gz N fu x.Lo.toNat b)++[(r:Int)]
def Ig (N:List GDNode) (r:Nat) (b:List Int):List Int:=Gz N (r+1) r b
section
variable {N:List GDNode}
def upto (k:Nat):List Int:=(List.range k).map λi=>((2+i:Nat):Int)
variable {n:Nat} {lev:Nat->Nat} {ord:List Nat}
end
end Go.Gg
namespace Go.Gg
theorem vD {V:Type} {m:GMap V} {k q:List Int} {v:V}:cQ (mput m k v) q=if q=k then some v else cQ m q:=rfl
theorem eQ {V:Type} {m:GMap V} {k q:Int} {v:V}:cQ (mput m [k] v) [q]=if q=k then some v else cQ m [q]:=by
 rw[vD]
 by_cases h:q=k
 ·subst h;rw[if_pos rfl,if_pos rfl]
 ·rw[if_neg h,if_neg (λhc=>h (by simpa using hc))]
theorem rD {V:Type} {q:List Int}:cQ (i9:GMap V) q=none:=rfl
section
variable {n:Nat} {lev:Nat->Nat} {ord:List Nat}
structure EX (n:Nat) (lev:Nat->Nat) (T:List GDNode) (refs:GMap Int) (N:List GDNode):Prop where
 wt:WT n lev N
 c0:cQ refs [0]=some 0
 c1:cQ refs [1]=some 1
 sound:∀r x,cQ refs [r]=some x->0<=r/\r.toNat<2+T.length/\0<=x/\x.toNat<2+N.length/\∀σ,den N σ x.toNat=den T σ r.toNat
 onto:∀i,i<N.length->∃r,cQ refs [r]=some ((2+i:Nat):Int)
variable {T N:List GDNode} {refs:GMap Int}
theorem WT.dep_all (hO:OrdL n lev ord) (h:WT n lev N) {r:Nat} (hr:r<2+N.length):Dep (λσ=>den N σ r) ord:=(h.dep hO hr).sub λ_ hv=>List.mem_of_mem_drop hv
theorem EX.start:EX n lev T (mput (mput i9 [0] 0) [1] 1) []:=by
 refine⟨WT.nil,?_,?_,λr x h=>?_,λi hi=>by simp at hi⟩
 ·rw[eQ,if_neg (by decide),eQ,if_pos rfl]
 ·rw[eQ,if_pos rfl]
 ·rw[eQ] at h
  by_cases h1:r=1
  ·subst h1;rw[if_pos rfl] at h;cases h
   exact⟨by decide,by simp;omega,by decide,by simp,λσ=>by rw[show(1:Int).toNat=1 from rfl,jr,jr]⟩
  ·rw[if_neg h1,eQ] at h
   by_cases h0:r=0
   ·subst h0;rw[if_pos rfl] at h;cases h
    exact⟨by decide,by simp;omega,by decide,by simp,λσ=>by rw[show(0:Int).toNat=0 from rfl,gX,gX]⟩
   ·rw[if_neg h0,rD] at h;cases h
theorem EX.old (hO:OrdL n lev ord) (hT:WT n lev T) (h:EX n lev T refs N) {r x:Int} (hr:cQ refs [r]=some x):dx ord (λσ=>den T σ r.toNat) N=(N,x.toNat):=by
 obtain⟨_,h2,_,h4,h5⟩:=h.sound r x hr
 exact Eb hO h.wt (hT.dep_all hO h2) h4 h5
theorem EX.node (hO:OrdL n lev ord) (hT:WT n lev T) {N1 N2:List GDNode} {refs2:GMap Int} {i:Nat} {x:GDNode} {y1 y2:Int} (hN:WT n lev N) (h:EX n lev T refs2 N2) (hx:T[i]? = some x) (hy1:0<=y1) (hy2:0<=y2)
  (e1:dx ord (λσ=>den T σ x.Lo.toNat) N=(N1,y1.toNat)) (e2:dx ord (λσ=>den T σ x.Hi.toNat) N1=(N2,y2.toNat)) (hno:cQ refs2 [((2+i:Nat):Int)]=none) :
  dx ord (λσ=>den T σ (2+i)) N=(N2++[⟨x.Var,y1,y2⟩],2+N2.length)/\EX n lev T (mput refs2 [((2+i:Nat):Int)] ((2+N2.length:Nat):Int)) (N2++[⟨x.Var,y1,y2⟩]):=by
 obtain⟨a,b,c,d,e,f⟩:=hT.nd i x hx
 have hi:=(List.getElem?_eq_some_iff.1 hx).1
 have hv:x.Var.toNat<n:=om
 have hd:=hT.dep hO (r:=2+i) om
 rw[nX hx] at hd
 have f1:(λσ=>den T (cE σ x.Var.toNat false) (2+i))=λσ=>den T σ x.Lo.toNat:=by funext σ;exact hT.den_cof hx σ false
 have f2:(λσ=>den T (cE σ x.Var.toNat true) (2+i))=λσ=>den T σ x.Hi.toNat:=by funext σ;exact hT.den_cof hx σ true
 have s1:=si hO hN (hT.dep_all hO (r:=x.Lo.toNat) om)
 rw[e1] at s1
 have s2:=si hO s1.1 (hT.dep_all hO (r:=x.Hi.toNat) om)
 rw[e2] at s2
 obtain⟨w1,_,l1,d1⟩:=s1
 obtain⟨w2,⟨M,rfl⟩,l2,d2⟩:=s2
 simp only at w1 l1 d1 w2 l2 d2
 have l1':y1.toNat<2+(N1++M).length:=by simp;omega
 have d1':∀σ,den (N1++M) σ y1.toNat=den T σ x.Lo.toNat:=λσ=>by rw[gG _ l1,d1]
 have hne:y1.toNat≠y2.toNat:=λhc=>by
  have:=hT.canon hO.lv (r:=x.Lo.toNat) (s:=x.Hi.toNat) om om λσ=>by rw[<-d1',<-d2,hc]
  omega
 have hxe:(⟨((x.Var.toNat:Nat):Int),((y1.toNat:Nat):Int),((y2.toNat:Nat):Int)⟩:GDNode)=⟨x.Var,y1,y2⟩:=by
  simp only[GDNode.mk.injEq]
  omega
 have hval:∀(N':List GDNode) j σ,N'[j]? = some (⟨x.Var,y1,y2⟩:GDNode)->(∃M',N'=(N1++M)++M')->y1.toNat<2+j->y2.toNat<2+j->den N' σ (2+j)=den T σ (2+i):=by
  rintro N' j σ hj ⟨M',rfl⟩ h1 h2
  rw[vQ hj h1 h2,hT.den_at hx,gG _ l1',gG _ l2,d1',d2]
 have hnm:(⟨x.Var,y1,y2⟩:GDNode)∉N1++M:=λhm=>by
  obtain⟨j,hj⟩:=List.mem_iff_getElem?.1 hm
  have hjl:=(List.getElem?_eq_some_iff.1 hj).1
  obtain⟨_,p1,p2,_⟩:=w2.nd j _ hj
  simp only at p1 p2
  obtain⟨r0,hr0⟩:=h.onto j hjl
  obtain⟨q1,q2,_,_,q5⟩:=h.sound r0 _ hr0
  have:=hT.canon hO.lv (r:=r0.toNat) (s:=2+i) q2 om λσ=>by
   rw[<-q5,Int.toNat_natCast]
   exact hval _ j σ hj ⟨[],by simp⟩ om om
  rw[show r0=((2+i:Nat):Int) by omega,hno] at hr0
  cases hr0
 have hadd:dx ord (λσ=>den T σ (2+i)) N=((N1++M)++[⟨x.Var,y1,y2⟩],2+(N1++M).length):=by
  rw[Cs hO hN hv hd,f1,f2,e1,e2]
  simp only[mkD]
  rw[if_neg hne,hxe,if_neg hnm]
 refine⟨hadd,?_⟩
 have s3:=si hO hN (hT.dep_all hO (r:=2+i) om)
 rw[hadd] at s3
 refine⟨s3.1,?_,?_,λr y hr=>?_,λj hj=>?_⟩
 ·rw[eQ,if_neg om];exact h.c0
 ·rw[eQ,if_neg om];exact h.c1
 ·rw[eQ] at hr
  by_cases hri:r=((2+i:Nat):Int)
  ·rw[if_pos hri] at hr
   cases hr
   subst hri
   refine⟨by omega,by rw[Int.toNat_natCast];omega,by omega,by rw[Int.toNat_natCast];simp,λσ=>?_⟩
   rw[Int.toNat_natCast,Int.toNat_natCast]
   exact s3.2.2.2 σ
  ·rw[if_neg hri] at hr
   obtain⟨q1,q2,q3,q4,q5⟩:=h.sound r y hr
   exact⟨q1,q2,q3,by rw[List.length_append];omega,λσ=>by rw[gG _ q4,q5]⟩
 ·have hlen:((N1++M)++[(⟨x.Var,y1,y2⟩:GDNode)]).length=(N1++M).length+1:=by rw[List.length_append];rfl
  rw[hlen] at hj
  by_cases hj':j<(N1++M).length
  ·obtain⟨r,hr⟩:=h.onto j hj'
   refine⟨r,?_⟩
   rw[eQ,if_neg,hr]
   rintro rfl
   rw[hno] at hr;cases hr
  ·obtain rfl:j=(N1++M).length:=om
   exact⟨((2+i:Nat):Int),by rw[eQ,if_pos rfl]⟩
end
end Go.Gg
namespace Go.Gg
def Vd (N:List GDNode) (r:Int):Prop:=0<=r/\r.toNat<2+N.length
def dn (N:List GDNode) (r:Int) (σ:Asg):Bool:=den N σ r.toNat
def Pre (N N':List GDNode):Prop:=∃M,N'=N++M
theorem Pre.refl (N:List GDNode):Pre N N:=⟨[],by simp⟩
theorem Pre.trans {A B C:List GDNode} (h:Pre A B) (h':Pre B C):Pre A C:=let ⟨M,a⟩:=h;let ⟨M',b⟩:=h';⟨M++M',by rw[b,a,List.append_assoc]⟩
theorem Pre.len {A B:List GDNode} (h:Pre A B):A.length<=B.length:=by obtain⟨M,rfl⟩:=h;simp
theorem Vd.pre {N N':List GDNode} {r:Int} (h:Vd N r) (hp:Pre N N'):Vd N' r:=⟨h.1,by have:=h.2;have:=hp.len;omega⟩
theorem gd {N N':List GDNode} {r:Int} (h:Vd N r) (hp:Pre N N'):dn N' r=dn N r:=by
 obtain⟨M,rfl⟩:=hp
 funext σ
 exact gG M h.2
theorem Pre.lvl {n:Nat} {lev:Nat->Nat} {N N':List GDNode} {r:Int} (h:Vd N r) (hp:Pre N N'):lvl n lev N' r.toNat=lvl n lev N r.toNat:=by
 obtain⟨M,rfl⟩:=hp
 exact rE M h.2
theorem vd0 {N:List GDNode}:Vd N 0:=⟨by decide,by show 0<_;omega⟩
theorem vd1 {N:List GDNode}:Vd N 1:=⟨by decide,by show 1<_;omega⟩
theorem dn0 {N:List GDNode}:dn N 0=λ_=>false:=by funext σ;exact gX
theorem dn1 {N:List GDNode}:dn N 1=λ_=>true:=by funext σ;exact jr
structure TB (n:Nat) (lev:Nat->Nat) (nodes:List GDNode) (unique memo:GMap Int):Prop where
 wt:WT n lev nodes
 uq:∀v lo hi r,cQ unique [v,lo,hi]=some r↔∃i,r=((2+i:Nat):Int)/\nodes[i]? = some ⟨v,lo,hi⟩
 me:∀c a b r,cQ memo [c,a,b]=some r->(Vd nodes c/\Vd nodes a/\Vd nodes b)/\Vd nodes r/\∀σ,dn nodes r σ=bif dn nodes c σ then dn nodes a σ else dn nodes b σ
section
variable {n:Nat} {lev:Nat->Nat} {ord:List Nat} {nodes:List GDNode} {unique memo:GMap Int}
theorem TB.nil:TB n lev [] i9 i9:=⟨WT.nil,λv lo hi r=>⟨λh=>by simp[rD] at h,λ⟨i,_,h⟩=>by simp at h⟩,λc a b r h=>by simp[rD] at h⟩
theorem TB.make_old (h:TB n lev nodes unique memo) {v lo hi r:Int} (hr:cQ unique [v,lo,hi]=some r):Vd nodes r/\∀σ,dn nodes r σ=bif σ v.toNat then dn nodes hi σ else dn nodes lo σ:=by
 obtain⟨i,rfl,hi'⟩:=(h.uq v lo hi r).1 hr
 have hl:=(List.getElem?_eq_some_iff.1 hi').1
 refine⟨⟨by omega,by rw[Int.toNat_natCast];omega⟩,λσ=>?_⟩
 unfold dn
 rw[Int.toNat_natCast]
 exact h.wt.den_at hi' σ
theorem TB.make_new (h:TB n lev nodes unique memo) {v lo hi:Int} (hv:0<=v/\v<n) (hlo:Vd nodes lo) (hhi:Vd nodes hi) (hne:lo≠hi) (h1:lev v.toNat<lvl n lev nodes lo.toNat) (h2:lev v.toNat<lvl n lev nodes hi.toNat) (hno:cQ unique [v,lo,hi]=none) :
  TB n lev (nodes++[⟨v,lo,hi⟩]) (mput unique [v,lo,hi] (2+nodes.length)) memo/\Vd (nodes++[⟨v,lo,hi⟩]) (2+nodes.length)/\
   ∀σ,dn (nodes++[⟨v,lo,hi⟩]) (2+nodes.length) σ=bif σ v.toNat then dn nodes hi σ else dn nodes lo σ:=by
 have hnm:(⟨v,lo,hi⟩:GDNode)∉nodes:=λhm=>by
  obtain⟨i,hi'⟩:=List.mem_iff_getElem?.1 hm
  have:=(h.uq v lo hi _).2 ⟨i,rfl,hi'⟩
  rw[hno] at this;cases this
 have hp:Pre nodes (nodes++[⟨v,lo,hi⟩]):=⟨_,rfl⟩
 have w:=h.wt.snoc (x:=⟨v,lo,hi⟩) hv ⟨hlo.1,by have:=hlo.2;have:=hlo.1;simp only;omega⟩ ⟨hhi.1,by have:=hhi.2;have:=hhi.1;simp only;omega⟩ hne h1 h2 hnm
 have hlast:(nodes++[⟨v,lo,hi⟩])[nodes.length]? = some (⟨v,lo,hi⟩:GDNode):=by simp
 refine⟨⟨w,λv' lo' hi' r=>?_,λc a b r hr=>?_⟩,⟨by omega,by rw[List.length_append,List.length_singleton];omega⟩,λσ=>?_⟩
 ·rw[vD]
  constructor
  ·intro hh
   by_cases he : [v',lo',hi']=[v,lo,hi]
   ·rw[if_pos he] at hh
    simp only[List.cons.injEq,and_true] at he
    obtain⟨rfl,rfl,rfl⟩:=he
    cases hh
    exact⟨nodes.length,by omega,hlast⟩
   ·rw[if_neg he] at hh
    obtain⟨i,a,b⟩:=(h.uq _ _ _ _).1 hh
    exact⟨i,a,by rw[List.getElem?_append_left (List.getElem?_eq_some_iff.1 b).1];exact b⟩
  ·rintro⟨i,rfl,hi2⟩
   have hil:=(List.getElem?_eq_some_iff.1 hi2).1
   rw[List.length_append,List.length_singleton] at hil
   by_cases hi3:i<nodes.length
   ·rw[List.getElem?_append_left hi3] at hi2
    have:=(h.uq v' lo' hi' _).2 ⟨i,rfl,hi2⟩
    rw[if_neg,this]
    intro he
    simp only[List.cons.injEq,and_true] at he
    obtain⟨rfl,rfl,rfl⟩:=he
    rw[hno] at this;cases this
   ·obtain rfl:i=nodes.length:=om
    rw[hlast] at hi2
    cases hi2
    rw[if_pos rfl]
    congr 1
 ·obtain⟨⟨p1,p2,p3⟩,p4,p5⟩:=h.me c a b r hr
  exact⟨⟨p1.pre hp,p2.pre hp,p3.pre hp⟩,p4.pre hp,λσ=>by rw[gd p4 hp,gd p1 hp,gd p2 hp,gd p3 hp];exact p5 σ⟩
 ·have:=w.den_at hlast σ
  unfold dn
  rw[show(2+(nodes.length:Int)).toNat=2+nodes.length by omega,this]
  simp only
  rw[gG _ hlo.2,gG _ hhi.2]
theorem TB.memo_put (h:TB n lev nodes unique memo) {c a b r:Int} (hc:Vd nodes c) (ha:Vd nodes a) (hb:Vd nodes b) (hr:Vd nodes r) (hd:∀σ,dn nodes r σ=bif dn nodes c σ then dn nodes a σ else dn nodes b σ):TB n lev nodes unique (mput memo [c,a,b] r):=by
 refine⟨h.wt,h.uq,λc' a' b' r' hh=>?_⟩
 rw[vD] at hh
 by_cases he : [c',a',b']=[c,a,b]
 ·rw[if_pos he] at hh
  simp only[List.cons.injEq,and_true] at he
  obtain⟨rfl,rfl,rfl⟩:=he
  cases hh
  exact⟨⟨hc,ha,hb⟩,hr,hd⟩
 ·rw[if_neg he] at hh
  exact h.me c' a' b' r' hh
end
end Go.Gg
namespace Go.Gg
def l_ (k:Int) (n:Nat):Bool:=if k=0 then decide (n=0) else if k=1 then decide (n=1) else decide (1<=n/\n<=16)
def jn (f:GFormula) (i:Nat):Int:=
 if (at' f.Nodes (i:Int)).Kind<0\/5<(at' f.Nodes (i:Int)).Kind then 7
 else if l_ (at' f.Nodes (i:Int)).Kind (at' f.Nodes (i:Int)).Args.length=false then 11
 else if ∃j<(at' f.Nodes (i:Int)).Args.length,at' (at' f.Nodes (i:Int)).Args (j:Int)<0\/f.Vars+i<=at' (at' f.Nodes (i:Int)).Args (j:Int) then 10
 else if (at' f.Nodes (i:Int)).Kind=0 then (if (at' f.Nodes (i:Int)).K≠0/\(at' f.Nodes (i:Int)).K≠1 then 3 else 0)
 else if (at' f.Nodes (i:Int)).Kind=4 then (if (at' f.Nodes (i:Int)).K<1\/((at' f.Nodes (i:Int)).Args.length:Int)<(at' f.Nodes (i:Int)).K then 3 else 0)
 else if (at' f.Nodes (i:Int)).K≠0 then 2 else 0
def sq (f:GFormula) (a:Int):Bool:=decide (0<=f.Vars/\0<=a/\(a<f.Vars\/a-f.Vars<f.Nodes.length))
def jA (f:GFormula):Int:=
 if f.Vars<0\/24<f.Vars then 3 else if 128<f.Nodes.length then 4
 else if jM (jn f) f.Nodes.length≠0 then jM (jn f) f.Nodes.length
 else if sq f f.Top=false then 10 else 0
theorem zJ {k:Int} {n:Nat} (h:l_ k n=true):n<=16:=by
 unfold l_ at h
 split at h
 ·simp at h;omega
 ·split at h
  ·simp at h;omega
  ·simp at h;omega
theorem pV {k:Int} {n:Nat} {Q:Bool->Prop} (h:Q (l_ k n)):ir k n Q:=by
 unfold l_ at h
 refine bP (λhc=>?_) (λhc=>bP (λhc1=>?_) (λhc1=>condT (λh1=>?_) (λh1=>?_)))
 ·rw[if_pos hc] at h
  rw[show((n:Int) == 0)=decide (n=0) by rw[Bool.eq_iff_iff];simp];exact h
 ·rw[if_neg hc,if_pos hc1] at h
  rw[show((n:Int) == 1)=decide (n=1) by rw[Bool.eq_iff_iff];simp;omega];exact h
 ·rw[if_neg hc,if_neg hc1] at h
  rw[show decide ((n:Int)<=16)=decide (1<=n/\n<=16) from decide_eq_decide.2 om];exact h
 ·rw[if_neg hc,if_neg hc1,decide_eq_false om] at h;exact h
theorem pU {f:GFormula} {i:Nat} {Q:Option Int->Prop} (hi:i<f.Nodes.length) (hV:0<=f.Vars/\f.Vars<=24) (hn:f.Nodes.length<=128) (h:Q (kK (jn f i))):iq f i Q:=by
 unfold jn at h
 refine⟨⟨by omega,by omega⟩,λy=>y=decide ((at' f.Nodes (i:Int)).Kind<0\/5<(at' f.Nodes (i:Int)).Kind),?_,?_⟩
 ·exact condT (λhc=>(decide_eq_true (Or.inl hc)).symm) (λhc=>decide_eq_decide.2 ⟨Or.inr,λhh=>hh.resolve_left hc⟩)
 rintro _ rfl
 refine condT (λhc=>?_) (λhc=>?_)
 ·rw[if_pos hc] at h;exact h
 rw[if_neg hc] at h
 refine pV (bk (λhb=>?_) (λhb=>?_))
 ·rw[if_pos (by simpa using hb)] at h;exact h
 simp only[Bool.not_eq_false'] at hb
 rw[if_neg (by rw[hb];simp)] at h
 have hl:=zJ hb
 refine jC (λj=>at' (at' f.Nodes (i:Int)).Args (j:Int)<0\/f.Vars+i<=at' (at' f.Nodes (i:Int)).Args (j:Int)) om (λj next hj hI hnx=>?_) (λhall=>?_)
 ·refine⟨⟨by omega,by omega⟩,λy=>y=decide (at' (at' f.Nodes (i:Int)).Args (j:Int)<0\/f.Vars+i<=at' (at' f.Nodes (i:Int)).Args (j:Int)),?_,?_⟩
  ·exact condT (λhc2=>(decide_eq_true (Or.inl hc2)).symm) (λhc2=>⟨by unfold rng;omega,decide_eq_decide.2 ⟨Or.inr,λhh=>hh.resolve_left hc2⟩⟩)
  ·rintro _ rfl
   refine condT (λhb2=>?_) (λhb2=>hnx hb2)
   rw[if_pos ⟨j,hj,hb2⟩] at h;exact h
 rw[if_neg (by rintro⟨j,hj,hb2⟩;exact hall j hj hb2)] at h
 refine bP (λh0=>?_) (λh0=>?_)
 ·rw[if_pos h0] at h
  refine⟨λy=>y=decide ((at' f.Nodes (i:Int)).K≠0/\(at' f.Nodes (i:Int)).K≠1),?_,?_⟩
  ·refine c_ (λhk=>?_) (λhk=>?_)
   ·show((at' f.Nodes (i:Int)).K != 1)=_
    rw[Bool.eq_iff_iff];simp[hk]
   ·rw[decide_eq_false (λhh=>hh.1 hk)]
  ·rintro _ rfl
   refine condT (λhk=>?_) (λhk=>?_)
   ·rw[if_pos hk] at h;exact h
   ·rw[if_neg hk] at h;exact h
 rw[if_neg h0] at h
 refine bP (λh4=>?_) (λh4=>?_)
 ·rw[if_pos h4] at h
  refine⟨λy=>y=decide ((at' f.Nodes (i:Int)).K<1\/((at' f.Nodes (i:Int)).Args.length:Int)<(at' f.Nodes (i:Int)).K),?_,?_⟩
  ·exact condT (λhk=>(decide_eq_true (Or.inl hk)).symm) (λhk=>decide_eq_decide.2 ⟨Or.inr,λhh=>hh.resolve_left hk⟩)
  ·rintro _ rfl
   refine condT (λhk=>?_) (λhk=>?_)
   ·rw[if_pos hk] at h;exact h
   ·rw[if_neg hk] at h;exact h
 rw[if_neg h4] at h
 refine c_ (λhk=>?_) (λhk=>?_)
 ·rw[if_pos hk] at h;exact h
 ·rw[if_neg (λhh=>hh hk)] at h;exact h
theorem xE {f:GFormula} {i:Nat} {Q:Int->Prop} (hi:i<f.Nodes.length) (hV:0<=f.Vars/\f.Vars<=24) (hn:f.Nodes.length<=128) (h:Q (jn f i)):nM f i Q:=by
 unfold jn at h
 have hf7:((at' f.Nodes (i:Int)).Kind≠0/\(at' f.Nodes (i:Int)).Kind≠1/\(at' f.Nodes (i:Int)).Kind≠2/\(at' f.Nodes (i:Int)).Kind≠3/\(at' f.Nodes (i:Int)).Kind≠4/\(at' f.Nodes (i:Int)).Kind≠5)->Q 7:=λhh=>by
  rw[if_pos om] at h;exact h
 refine⟨⟨by omega,by omega⟩,λy=>(0<=(at' f.Nodes (i:Int)).Kind/\(at' f.Nodes (i:Int)).Kind<=5)/\(0<=y.1/\y.1<=1/\0<=y.2/\y.2<=16)/\∀n:Nat,l_ (at' f.Nodes (i:Int)).Kind n=decide (y.1<=n/\(n:Int)<=y.2),?_,?_⟩
 ·have hbig:∀n:Nat,(at' f.Nodes (i:Int)).Kind≠0->(at' f.Nodes (i:Int)).Kind≠1->l_ (at' f.Nodes (i:Int)).Kind n=decide ((1:Int)<=n/\(n:Int)<=16):=λn h0 h1=>by
   rw[l_,if_neg h0,if_neg h1];exact decide_eq_decide.2 om
  refine bP (λh0:(at' f.Nodes (i:Int)).Kind=0=>⟨by omega,by decide,λn=>by rw[l_,if_pos h0];exact decide_eq_decide.2 (by dsimp only;omega)⟩) (λh0=>bP (λh1:(at' f.Nodes (i:Int)).Kind=1=>⟨by omega,by decide,λn=>by rw[l_,if_neg h0,if_pos h1];exact decide_eq_decide.2 (by dsimp only;omega)⟩) (λh1=>?_))
  exact bP (λh2:(at' f.Nodes (i:Int)).Kind=2=>⟨by omega,by decide,λn=>hbig n h0 h1⟩) (λh2=>bP (λh3:(at' f.Nodes (i:Int)).Kind=3=>⟨by omega,by decide,λn=>hbig n h0 h1⟩) (λh3=>bP (λh4:(at' f.Nodes (i:Int)).Kind=4=>⟨by omega,by decide,λn=>hbig n h0 h1⟩) (λh4=>bP (λh5:(at' f.Nodes (i:Int)).Kind=5=>⟨by omega,by decide,λn=>hbig n h0 h1⟩) (λh5=>hf7 ⟨h0,h1,h2,h3,h4,h5⟩))))
 rintro⟨lo,hi2⟩ ⟨hkind,hb,hargs⟩
 dsimp only at hb hargs
 rw[if_neg om] at h
 refine condT (λ(hc:((at' f.Nodes (i:Int)).Args.length:Int)<lo)=>?_) (λ(hc:¬((at' f.Nodes (i:Int)).Args.length:Int)<lo)=>condT (λ(hc2:hi2<((at' f.Nodes (i:Int)).Args.length:Int))=>?_) (λ(hc2:¬hi2<((at' f.Nodes (i:Int)).Args.length:Int))=>?_))
 ·rw[if_pos (by rw[hargs];exact decide_eq_false om)] at h;exact h
 ·rw[if_pos (by rw[hargs];exact decide_eq_false om)] at h;exact h
 rw[if_neg (by rw[hargs,decide_eq_true om];simp)] at h
 refine jC (n:=(at' f.Nodes (i:Int)).Args.length) (λj=>at' (at' f.Nodes (i:Int)).Args (j:Int)<0\/f.Vars+i<=at' (at' f.Nodes (i:Int)).Args (j:Int)) om (λj next hj hI hnx=>?_) (λhall=>?_)
 ·refine⟨⟨by omega,show(j:Int)<((at' f.Nodes (i:Int)).Args.length:Int) by omega⟩,condT (λhc3=>?_) (λhc3=>⟨by unfold rng;omega,condT (λhc4=>?_) (λhc4=>hnx (by rw[not_or];exact⟨hc3,hc4⟩))⟩)⟩
  ·rw[if_pos ⟨j,hj,Or.inl hc3⟩] at h;exact h
  ·rw[if_pos ⟨j,hj,Or.inr hc4⟩] at h;exact h
 rw[if_neg (by rintro⟨j,hj,hb2⟩;exact hall j hj hb2)] at h
 refine bP (λh0=>?_) (λh0=>?_)
 ·rw[if_pos h0] at h
  refine c_ (λhk=>c_ (λhk1=>?_) (λhk1=>?_)) (λhk=>?_)
  ·rw[if_pos ⟨hk,hk1⟩] at h;exact h
  ·rw[if_neg (λhh=>hh.2 hk1)] at h;exact h
  ·rw[if_neg (λhh=>hh.1 hk)] at h;exact h
 rw[if_neg h0] at h
 refine bP (λh4=>?_) (λh4=>?_)
 ·rw[if_pos h4] at h
  refine condT (λhk=>?_) (λhk=>condT (λhk2=>?_) (λhk2=>?_))
  ·rw[if_pos (Or.inl hk)] at h;exact h
  ·rw[if_pos (Or.inr hk2)] at h;exact h
  ·rw[if_neg (by rw[not_or];exact⟨hk,hk2⟩)] at h;exact h
 rw[if_neg h4] at h
 refine c_ (λhk=>?_) (λhk=>?_)
 ·rw[if_pos hk] at h;exact h
 ·rw[if_neg (λhh=>hh hk)] at h;exact h
theorem oy {f:GFormula} {a:Int} {Q:Bool->Prop} (ha:rng a) (h:Q (sq f a)):kI f a Q:=by
 unfold sq at h
 unfold rng at ha
 refine condT (λh1=>condT (λh2=>condT (λh3=>?_) (λh3=>⟨by unfold rng;omega,?_⟩)) (λh2=>?_)) (λh1=>?_)
 ·rw[decide_eq_true ⟨h1,h2,Or.inl h3⟩] at h;exact h
 ·rw[show decide (a-f.Vars<(f.Nodes.length:Int))=decide (0<=f.Vars/\0<=a/\(a<f.Vars\/a-f.Vars<f.Nodes.length)) from decide_eq_decide.2 om];exact h
 ·rw[decide_eq_false (λhh=>h2 hh.2.1)] at h;exact h
 ·rw[decide_eq_false (λhh=>h1 hh.1)] at h;exact h
theorem wv {f:GFormula} {a:Int} {Q:Bool->Prop} (ha:rng a) (h:Q (sq f a)):mR f a Q:=oy ha h
theorem d5 {e:Int}:(kK e).isSome=decide (e≠0):=by
 unfold kK
 by_cases h:e=0
 ·rw[if_pos h,decide_eq_false (λhh=>hh h)];rfl
 ·rw[if_neg h,decide_eq_true h];rfl
theorem fr {f:GFormula} {Q:Option Int->Prop} (ht:rng f.Top) (h:Q (kK (jA f))):du f Q:=by
 unfold jA at h
 refine⟨λy=>y=decide (f.Vars<0\/24<f.Vars),?_,?_⟩
 ·exact condT (λhc=>(decide_eq_true (Or.inl hc)).symm) (λhc=>decide_eq_decide.2 ⟨Or.inr,λhh=>hh.resolve_left hc⟩)
 rintro _ rfl
 refine condT (λhc=>?_) (λhc=>?_)
 ·rw[if_pos hc] at h;exact h
 rw[if_neg hc] at h
 refine condT (λhc2=>?_) (λhc2=>?_)
 ·rw[if_pos om] at h;exact h
 rw[if_neg om] at h
 refine jC (λi=>jn f i≠0) om (λi next hi hI hnx=>?_) (λhall=>?_)
 ·refine pU hi om om ?_
  rw[d5]
  refine condT (λhe=>?_) (λhe=>hnx he)
  rw[gW (λj hj=>Decidable.not_not.1 (hI j hj)) he _ hi,if_pos he] at h
  exact h
 ·rw[if_neg (λhh=>hh (cp.2 λj hj=>Decidable.not_not.1 (hall j hj)))] at h
  refine oy ht (bk (λhb=>?_) (λhb=>?_))
  ·rw[if_pos (by simpa using hb)] at h;exact h
  ·rw[if_neg (by simpa using hb)] at h;exact h
theorem ww {f:GFormula} {Q:Int->Prop} (ht:rng f.Top) (h:Q (jA f)):mS f Q:=by
 unfold jA at h
 refine condT (λhc=>?_) (λhc=>condT (λhc1=>?_) (λhc1=>?_))
 ·rw[if_pos (Or.inl hc)] at h;exact h
 ·rw[if_pos (Or.inr hc1)] at h;exact h
 rw[if_neg om] at h
 refine condT (λhc2=>?_) (λhc2=>?_)
 ·rw[if_pos om] at h;exact h
 rw[if_neg om] at h
 refine jC (λi=>jn f i≠0) om (λi next hi hI hnx=>?_) (λhall=>?_)
 ·refine xE hi om om (c_ (λhe=>?_) (λhe=>hnx (λhh=>hh he)))
  rw[gW (λj hj=>Decidable.not_not.1 (hI j hj)) he _ hi,if_pos he] at h
  exact h
 ·rw[if_neg (λhh=>hh (cp.2 λj hj=>Decidable.not_not.1 (hall j hj)))] at h
  refine wv ht (bk (λhb=>?_) (λhb=>?_))
  ·rw[if_pos (by simpa using hb)] at h;exact h
  ·rw[if_neg (by simpa using hb)] at h;exact h
structure FG (f:GFormula):Prop where
 v0:0<=f.Vars
 v24:f.Vars<=24
 n128:f.Nodes.length<=128
 node:∀i,i<f.Nodes.length->jn f i=0
 top0:0<=f.Top
 top:f.Top<f.Vars+f.Nodes.length
theorem jS {f:GFormula}:jA f=0↔FG f:=by
 unfold jA
 constructor
 ·intro h
  split at h
  ·cases h
  split at h
  ·cases h
  split at h
  ·rename_i h3;exact absurd h h3
  split at h
  ·cases h
  rename_i h1 h2 h3 h4
  rw[Decidable.not_not] at h3
  have h5:=cp.1 h3
  simp only[sq,Bool.not_eq_false,decide_eq_true_eq] at h4
  exact⟨by omega,by omega,by omega,h5,by omega,by omega⟩
 ·intro h
  rw[if_neg (by have:=h.v0;have:=h.v24;omega),if_neg (by have:=h.n128;omega),if_neg (λhh=>hh (cp.2 h.node)),if_neg]
  have:=h.v0;have:=h.top0;have:=h.top
  simp only[sq,Bool.not_eq_false,decide_eq_true_eq]
  omega
structure NG (f:GFormula) (i:Nat):Prop where
 k0:0<=(at' f.Nodes (i:Int)).Kind
 k5:(at' f.Nodes (i:Int)).Kind<=5
 len:(at' f.Nodes (i:Int)).Args.length<=16
 arg:∀j:Nat,j<(at' f.Nodes (i:Int)).Args.length->0<=at' (at' f.Nodes (i:Int)).Args (j:Int)/\at' (at' f.Nodes (i:Int)).Args (j:Int)<f.Vars+i
 args:l_ (at' f.Nodes (i:Int)).Kind (at' f.Nodes (i:Int)).Args.length=true
theorem fL {f:GFormula} {i:Nat} (h:jn f i=0):NG f i:=by
 unfold jn at h
 split at h
 ·cases h
 split at h
 ·cases h
 split at h
 ·cases h
 rename_i h1 h2 h3
 refine⟨by omega,by omega,zJ (by simpa using h2),λj hj=>?_,by simpa using h2⟩
 rw[not_exists] at h3
 have:=h3 j
 simp only[hj,true_and,not_or] at this
 omega
end Go.Gg
namespace Go.Gg
theorem AB {y:Int} (h0:0<=y) (h1:y<4294967296):bits .and .i64 y 1=y % 2:=by
 obtain⟨m,rfl⟩:=Int.eq_ofNat_of_zero_le h0
 show IntKind.i64.wrap (((BitVec.ofInt 64 (m:Int)) &&& (BitVec.ofInt 64 1)).toNat:Int)=_
 rw[BitVec.toNat_and,BitVec.toNat_ofInt,BitVec.toNat_ofInt]
 have e1:((m:Int) % ((2^64:Nat):Int)).toNat=m:=om
 have e2:((1:Int) % ((2^64:Nat):Int)).toNat=1:=om
 rw[e1,e2,Nat.and_one_is_mod]
 have e3:m % 2=0\/m % 2=1:=om
 have e4:(m:Int) % 2=((m % 2:Nat):Int):=om
 rw[e4]
 rcases e3 with e | e<;>rw[e]<;>rfl
def inS (s i:Nat):Bool:=decide (s / 2^i % 2=1)
theorem AA {s k:Nat} (hx:s<4294967296):(bits .and .i64 ((s:Int) / 2^(Int.toNat (k:Int))) 1 == 1)=inS s k:=by
 have e:((s:Int) / 2^(Int.toNat (k:Int)))=((s / 2^k:Nat):Int):=by rw[Int.toNat_natCast];simp
 have:=Nat.div_le_self s (2^k)
 unfold inS
 rw[e]
 generalize s / 2^k=z at this
 rw[AB om om,Bool.eq_iff_iff]
 simp only[beq_iff_eq,decide_eq_true_eq]
 omega
def cnt (x:GNode) (v:List Bool):Nat->Nat
 | 0=>0
 | j+1=>cnt x v j+(if at' v (at' x.Args (j:Int))=true then 1 else 0)
def nt (x:GNode) (n:Nat):Bool:=
 if x.Kind=0 then x.K == 1 else if x.Kind=1 then (n:Int) == 0 else if x.Kind=2 then (n:Int) == (x.Args.length:Int) else if x.Kind=3 then decide ((0:Int)<n)
 else if x.Kind=4 then decide (x.K<=n) else Int.tmod n 2 == 1
def gD (x:GNode) (v:List Bool):Bool:=nt x (cnt x v x.Args.length)
def cx (f:GFormula) (s:Nat):Nat->List Bool
 | 0=>(List.range f.Vars.toNat).map (inS s)
 | i+1=>cx f s i++[gD (at' f.Nodes (i:Int)) (cx f s i)]
def FV (f:GFormula) (s:Nat):Bool:=at' (cx f s f.Nodes.length) f.Top
theorem j5 {f:GFormula} {s:Nat}:∀i,(cx f s i).length=f.Vars.toNat+i
 | 0=>by simp[cx]
 | i+1=>by rw[cx,List.length_append,j5 i];simp;omega
theorem eO {α:Type} [Inhabited α] {l m:List α} {i:Int} (h0:0<=i) (h:i<l.length):at' (l++m) i=at' l i:=by
 obtain⟨k,rfl⟩:=Int.eq_ofNat_of_zero_le h0
 have:k<l.length:=om
 simp[at',List.getD_eq_getElem?_getD,List.getElem?_append,this]
theorem iV {α:Type} [Inhabited α] {l:List α} {x:α}:at' (l++[x]) (l.length:Int)=x:=by
 simp[at',List.getD_eq_getElem?_getD]
theorem i_ {f:GFormula} {s m:Nat} {a:Int} (h0:0<=a) (h:a<f.Vars.toNat+m):∀n,m<=n->at' (cx f s n) a=at' (cx f s m) a
 | 0,hn=>by
        obtain rfl:m=0:=om
        rfl
 | n+1,hn=>by
  rcases Nat.lt_or_ge n m with h1 | h1
  ·obtain rfl:m=n+1:=om
   rfl
  ·rw[cx,eO h0 (by rw[j5];omega),i_ h0 h n h1]
theorem Ay {x:GNode} {v:List Bool}:∀j,cnt x v j<=j
 | 0=>Nat.le_refl _
 | j+1=>by have:=Ay (x:=x) (v:=v) j;rw[cnt];split<;>omega
theorem jT {α:Type} [Inhabited α] {l:List α} {i:Nat} {x:α} {j:Nat} (h:i<l.length):at' (bw l (i:Int) x) (j:Int)=if j=i then x else at' l (j:Int):=by
 simp only[at',bw,Int.toNat_natCast,List.getD_eq_getElem?_getD,List.getElem?_set]
 by_cases hij:i=j
 ·subst hij;simp[h]
 ·rw[if_neg hij,if_neg (λe=>hij e.symm)]
theorem e_ {α:Type} {l:List α} {i:Int} {x:α}:(bw l i x).length=l.length:=by simp[bw]
theorem sS {f:GFormula} {s:Nat} {Q:List Bool->Prop} (g:FG f) (hs:s<4294967296) (h:Q (cx f s f.Nodes.length)):jL f s Q:=by
 have v0:=g.v0
 have v24:=g.v24
 have n128:=g.n128
 refine⟨by unfold rng;omega,⟨by omega,by omega,by omega,by omega⟩,?_⟩
 refine dg (n:=f.Vars.toNat) (λi y=>y.1=(i:Int)/\y.2.length=f.Vars.toNat/\∀j,j<i->at' y.2 (j:Int)=inS s j) (λy=>y.1) 0 (λi y hy=>by rw[hy.1];omega) ⟨rfl,by simp[bS],λj hj=>absurd hj om⟩ ?_ ?_
 ·rintro i ⟨x,v⟩ next hi ⟨rfl,hl,hI⟩ hn
  dsimp only at hl hI
  refine condT (λhc=>⟨⟨by omega,by omega⟩,⟨by omega,by omega⟩,by unfold rng;omega,hn _ ⟨rfl,by rw[e_];exact hl,λj hj=>?_⟩⟩) (λhc=>absurd (show(i:Int)<(f.Vars.toNat:Int) by omega) hc)
  dsimp only
  rw[jT om]
  by_cases hji:j=i
  ·rw[if_pos hji,AA hs,hji]
  ·rw[if_neg hji];exact hI j om
 ·rintro⟨x,v⟩ next ⟨rfl,hl,hI⟩
  dsimp only at hl hI
  refine condT (λhc=>absurd hc om) (λ_=>?_)
  have hv:v=cx f s 0:=by
   refine rU (by rw[j5];omega) λj hj=>?_
   rw[hI j om]
   show _=at' ((List.range f.Vars.toNat).map (inS s)) (j:Int)
   simp[at',List.getD_eq_getElem?_getD,show j<f.Vars.toNat by omega]
  rw[hv]
  refine dc (n:=f.Nodes.length) (λi=>((i:Int),cx f s i)) (λy=>y.1) 0 (λi=>om) rfl ?_ ?_
  ·intro i next hi hn
   have N:=fL (g.node i hi)
   have hlen:=N.len
   refine condT (λhc=>⟨⟨by omega,by omega⟩,?_⟩) (λhc=>absurd (show(i:Int)<(f.Nodes.length:Int) by omega) hc)
   refine dc (n:=(at' f.Nodes (i:Int)).Args.length) (λj=>((cnt (at' f.Nodes (i:Int)) (cx f s i) j:Int),(j:Int))) (λy=>y.2) 0 (λj=>om) rfl ?_ ?_
   ·intro j next2 hj hn2
    have ha:=N.arg j hj
    have hcl:=Ay (x:=at' f.Nodes (i:Int)) (v:=cx f s i) j
    refine condT (λhc=>⟨⟨by omega,by omega⟩,⟨ha.1,by rw[j5];omega⟩,bk (λhb=>⟨by unfold rng;omega,by unfold rng;omega,?_⟩) (λhb=>⟨by unfold rng;omega,?_⟩)⟩) (λhc=>absurd (show(j:Int)<((at' f.Nodes (i:Int)).Args.length:Int) by omega) hc)
    ·rw[cnt,if_pos hb] at hn2;exact hn2
    ·rw[cnt,if_neg (by rw[hb];simp)] at hn2;exact hn2
   ·intro next2
    refine condT (λhc=>absurd hc om) (λ_=>?_)
    refine⟨λy=>y=gD (at' f.Nodes (i:Int)) (cx f s i),?_,?_⟩
    ·have k5:=N.k5
     have k0:=N.k0
     unfold gD nt
     refine bP (λh0=>by rw[if_pos h0]) (λh0=>bP (λh1=>by rw[if_neg h0,if_pos h1]) (λh1=>bP (λh2=>by rw[if_neg h0,if_neg h1,if_pos h2]) (λh2=>bP (λh3=>by rw[if_neg h0,if_neg h1,if_neg h2,if_pos h3]) (λh3=>bP (λh4=>by rw[if_neg h0,if_neg h1,if_neg h2,if_neg h3,if_pos h4]) (λh4=>bP (λh5=>by rw[if_neg h0,if_neg h1,if_neg h2,if_neg h3,if_neg h4]) (λh5=>?_))))))
     exact absurd (show(at' f.Nodes (i:Int)).Kind=0\/(at' f.Nodes (i:Int)).Kind=1\/(at' f.Nodes (i:Int)).Kind=2\/(at' f.Nodes (i:Int)).Kind=3\/(at' f.Nodes (i:Int)).Kind=4\/(at' f.Nodes (i:Int)).Kind=5 by omega) (by
      rintro(hh | hh | hh | hh | hh | hh)
      ·exact h0 hh
      ·exact h1 hh
      ·exact h2 hh
      ·exact h3 hh
      ·exact h4 hh
      ·exact h5 hh)
    ·rintro _ rfl
     refine⟨?_,by unfold rng;omega,hn⟩
     rw[List.length_append,j5,List.length_singleton]
     omega
  ·intro next
   exact condT (λhc=>absurd hc om) (λ_=>h)
theorem De {n:Nat} (h:n<=24):2^n<=16777216:=Nat.le_trans (Nat.pow_le_pow_right om h) (by decide)
def wH (f:GFormula) (s:Int):Int:=if jA f≠0 then jA f else if s<0\/(2^f.Vars.toNat:Int)<=s then 3 else 0
theorem uc {f:GFormula} {s:Int} {Q:Option Int->Prop} (ht:rng f.Top) (h:Q (kK (wH f s))):kG f s Q:=by
 unfold wH at h
 refine fr ht ?_
 rw[d5]
 refine condT (λhc=>?_) (λhc=>?_)
 ·rw[if_pos hc] at h;exact h
 rw[if_neg hc] at h
 have g:=jS.1 (Decidable.not_not.1 hc)
 have v0:=g.v0
 have v24:=g.v24
 refine⟨λy=>y=decide (s<0\/(2^f.Vars.toNat:Int)<=s),?_,?_⟩
 ·refine condT (λhc=>(decide_eq_true (Or.inl hc)).symm) (λhc=>⟨⟨⟨by omega,by omega⟩,?_⟩,?_⟩)
  ·have:=De (n:=f.Vars.toNat) om
   have e:(2^f.Vars.toNat:Int)=((2^f.Vars.toNat:Nat):Int):=by simp
   rw[Int.one_mul,e]
   generalize 2^f.Vars.toNat=z at this
   unfold rng;omega
  ·rw[Int.one_mul]
   exact decide_eq_decide.2 ⟨Or.inr,λhh=>hh.resolve_left hc⟩
 ·rintro _ rfl
  refine condT (λhc2=>?_) (λhc2=>?_)
  ·rw[if_pos hc2] at h;exact h
  ·rw[if_neg hc2] at h;exact h
theorem ud {f:GFormula} {s:Int} {Q:Bool->Option Int->Prop} (ht:rng f.Top) (h1:wH f s≠0->Q false (some (wH f s))) (h2:wH f s=0->Q (FV f s.toNat) none):kH f s Q:=by
 refine uc ht ?_
 rw[d5]
 refine condT (λhc=>?_) (λhc=>?_)
 ·rw[show kK (wH f s)=some (wH f s) from if_neg hc];exact h1 hc
 ·have h3:=h2 (Decidable.not_not.1 hc)
  unfold wH at hc
  by_cases hm:jA f≠0
  ·rw[if_pos hm] at hc;exact absurd hm hc
  rw[if_neg hm] at hc
  have g:=jS.1 (Decidable.not_not.1 hm)
  have v0:=g.v0
  have v24:=g.v24
  have hs:0<=s/\s<(2^f.Vars.toNat:Int):=by
   by_cases hh:s<0\/(2^f.Vars.toNat:Int)<=s
   ·rw[if_pos hh] at hc;exact absurd (by decide) hc
   ·rw[not_or] at hh;exact⟨by omega,by omega⟩
  obtain⟨k,rfl⟩:=Int.eq_ofNat_of_zero_le hs.1
  have hp:=De (n:=f.Vars.toNat) om
  have hk:k<2^f.Vars.toNat:=by
   have:=hs.2
   exact_mod_cast this
  refine⟨_,sS g om rfl,⟨⟨g.top0,by rw[j5];have:=g.top;omega⟩,h3⟩⟩
end Go.Gg
namespace Go.Gg
theorem s7 {x:GNode} {v w:List Bool}:∀j,(∀k:Nat,k<j->at' v (at' x.Args (k:Int))=at' w (at' x.Args (k:Int)))->cnt x v j=cnt x w j
 | 0,_=>rfl
 | j+1,h=>by rw[cnt,cnt,s7 j (λk hk=>h k om),h j om]
def oW (f:GFormula) (s:Nat):List Bool:=(List.range f.Nodes.length).map λk:Nat=>at' (cx f s f.Nodes.length) (f.Vars+(k:Int))
theorem w7 {f:GFormula} {s k:Nat} (h:k<f.Nodes.length):at' (oW f s) (k:Int)=at' (cx f s f.Nodes.length) (f.Vars+k):=by
 unfold oW
 simp[at',List.getD_eq_getElem?_getD,h]
theorem nb {f:GFormula} {s i:Nat} (v0:0<=f.Vars) (h:i<f.Nodes.length):at' (cx f s f.Nodes.length) (f.Vars+i)=gD (at' f.Nodes (i:Int)) (cx f s i):=by
 rw[i_ (m:=i+1) om om _ om,cx]
 have e:f.Vars+(i:Int)=((cx f s i).length:Int):=by rw[j5];omega
 rw[e,iV]
theorem gH {f:GFormula} {s:Nat} {a:Int} (h0:0<=a) (h:a<f.Vars) (n:Nat):at' (cx f s n) a=inS s a.toNat:=by
 rw[i_ (m:=0) h0 om n om]
 obtain⟨k,rfl⟩:=Int.eq_ofNat_of_zero_le h0
 show at' ((List.range f.Vars.toNat).map (inS s)) (k:Int)=_
 simp[at',List.getD_eq_getElem?_getD,show k<f.Vars.toNat by omega]
theorem z6 {f:GFormula} {s i:Nat} {l:List Bool} {a:Int} {Q:List Bool->Bool->Prop} (g:FG f) (hs:s<4294967296) (hi:i<=f.Nodes.length) (hl:l.length=f.Nodes.length) (hI:∀k:Nat,k<i->at' l (k:Int)=at' (cx f s f.Nodes.length) (f.Vars+k))
  (ha:0<=a/\a<f.Vars+i) (h:Q l (at' (cx f s f.Nodes.length) a)):lK f l 0 l.length s a Q:=by
 have v0:=g.v0
 have v24:=g.v24
 have n128:=g.n128
 refine condT (λhc=>⟨⟨by omega,by omega⟩,?_⟩) (λhc=>⟨by unfold rng;omega,⟨by omega,by omega⟩,by omega,?_⟩)
 ·obtain⟨k,rfl⟩:=Int.eq_ofNat_of_zero_le ha.1
  rw[gH ha.1 hc] at h
  rw[AA hs]
  exact h
 ·have e:(((0:Nat):Int)+(a-f.Vars))=((a-f.Vars).toNat:Int):=om
  rw[e,hI _ om]
  have e2:f.Vars+((a-f.Vars).toNat:Int)=a:=om
  rw[e2];exact h
theorem z5 {f:GFormula} {s:Nat} {a:Int} {Q:Bool->Prop} (g:FG f) (hs:s<4294967296) (ha:0<=a/\a<f.Vars+f.Nodes.length) (h:Q (at' (cx f s f.Nodes.length) a)):qt f (oW f s) s a Q:=by
 have v0:=g.v0
 have v24:=g.v24
 have n128:=g.n128
 have hl:(oW f s).length=f.Nodes.length:=by simp[oW]
 refine condT (λhc=>⟨⟨by omega,by omega⟩,?_⟩) (λhc=>⟨by unfold rng;omega,⟨by omega,by omega⟩,?_⟩)
 ·obtain⟨k,rfl⟩:=Int.eq_ofNat_of_zero_le ha.1
  rw[gH ha.1 hc] at h
  rw[AA hs]
  exact h
 ·have e:a-f.Vars=((a-f.Vars).toNat:Int):=om
  rw[e,w7 om]
  have e2:f.Vars+((a-f.Vars).toNat:Int)=a:=om
  rw[e2];exact h
theorem uO {f:GFormula} {s:Nat} {Q:List Bool->Prop} (g:FG f) (hs:s<4294967296) (h:Q (oW f s)):lJ f s Q:=by
 have v0:=g.v0
 have v24:=g.v24
 have n128:=g.n128
 refine⟨⟨by omega,by omega,by omega,by omega⟩,?_⟩
 refine dg (n:=f.Nodes.length) (λi y=>y.1=(i:Int)/\y.2.length=f.Nodes.length/\∀k:Nat,k<i->at' y.2 (k:Int)=at' (cx f s f.Nodes.length) (f.Vars+k)) (λy=>y.1) 0 (λi y hy=>by rw[hy.1];omega) ⟨rfl,by simp[bS],λk hk=>absurd hk om⟩ ?_ ?_
 ·rintro i ⟨x,l⟩ next hi ⟨rfl,hl,hI⟩ hn
  dsimp only at hl hI
  have N:=fL (g.node i hi)
  have hlen:=N.len
  have hset:∀b,b=gD (at' f.Nodes (i:Int)) (cx f s i)->(((0:Int)<=(i:Int)/\(i:Int)<(l.length:Int))/\rng ((i:Int)+1)/\next (((i:Int)+1),bw l (i:Int) b)):=by
   rintro b rfl
   refine⟨⟨by omega,by omega⟩,by unfold rng;omega,hn _ ⟨rfl,by rw[e_];exact hl,λk hk=>?_⟩⟩
   dsimp only
   rw[jT om]
   by_cases hki:k=i
   ·rw[if_pos hki,hki,nb v0 hi]
   ·rw[if_neg hki];exact hI k om
  refine condT (λhc=>⟨⟨by omega,by omega⟩,?_⟩) (λhc=>absurd (show(i:Int)<(f.Nodes.length:Int) by omega) hc)
  have hcc:∀j,j<=(at' f.Nodes (i:Int)).Args.length->cnt (at' f.Nodes (i:Int)) (cx f s f.Nodes.length) j=cnt (at' f.Nodes (i:Int)) (cx f s i) j:=λj hj=>s7 j λk hk=>by
   have ha:=N.arg k om
   exact i_ ha.1 om _ om
  refine dc (n:=(at' f.Nodes (i:Int)).Args.length) (λj=>((cnt (at' f.Nodes (i:Int)) (cx f s f.Nodes.length) j:Int),(j:Int),l)) (λy=>y.2.1) 0 (λj=>by dsimp only;omega) rfl ?_ ?_
  ·intro j next2 hj hn2
   have ha:=N.arg j hj
   have hcl:=Ay (x:=at' f.Nodes (i:Int)) (v:=cx f s f.Nodes.length) j
   refine condT (λhc=>⟨⟨by omega,by omega⟩,z6 g hs om hl hI ha ⟨rfl,bk (λhb=>⟨by unfold rng;omega,by unfold rng;omega,?_⟩) (λhb=>⟨by unfold rng;omega,?_⟩)⟩⟩) (λhc=>absurd (show(j:Int)<((at' f.Nodes (i:Int)).Args.length:Int) by omega) hc)
   ·rw[cnt,if_pos hb] at hn2;exact hn2
   ·rw[cnt,if_neg (by rw[hb];simp)] at hn2;exact hn2
  ·intro next2
   refine condT (λhc=>absurd hc om) (λ_=>?_)
   have k5:=N.k5
   have k0:=N.k0
   have hc:=hcc _ (Nat.le_refl _)
   rw[hc]
   unfold gD nt at hset
   exact bP (λh0=>hset _ (by rw[if_pos h0])) (λh0=>bP (λh1=>hset _ (by rw[if_neg h0,if_pos h1])) (λh1=>bP (λh2=>hset _ (by rw[if_neg h0,if_neg h1,if_pos h2])) (λh2=>bP (λh3=>hset _ (by rw[if_neg h0,if_neg h1,if_neg h2,if_pos h3])) (λh3=>bP (λh4=>hset _ (by rw[if_neg h0,if_neg h1,if_neg h2,if_neg h3,if_pos h4])) (λh4=>hset _ (by rw[if_neg h0,if_neg h1,if_neg h2,if_neg h3,if_neg h4]))))))
 ·rintro⟨x,l⟩ next ⟨rfl,hl,hI⟩
  dsimp only at hl hI
  refine condT (λhc=>absurd hc om) (λ_=>?_)
  have:l=oW f s:=rU (by simp[oW,hl]) λk hk=>by rw[hI k om,w7 om]
  rw[this];exact h
theorem wu {f:GFormula} {s:Nat} {Q:Bool->Prop} (g:FG f) (hs:s<4294967296) (h:Q (FV f s)):mQ f s Q:=
 ⟨_,uO g hs rfl,_,z5 g hs ⟨g.top0,g.top⟩ rfl,h⟩
end Go.Gg
namespace Go.Gg
def plE (o:List Int) (n:Int) (i:Nat):Int:=
 if at' o (i:Int)<0\/n<=at' o (i:Int) then 3 else if ∃k<i,at' o (k:Int)=at' o (i:Int) then 6 else 0
def t6 (o:List Int) (n:Int):Int:=if n<0\/24<n then 3 else if (o.length:Int)≠n then 11 else jM (plE o n) o.length
theorem wD {o:List Int} {n:Int} {Q:Option Int->Prop} (h:Q (kK (t6 o n))):mZ o n Q:=by
 unfold t6 at h
 refine⟨λb=>b=decide (n<0\/24<n),condT (λh0=>?_) (λh0=>?_),λb hb=>?_⟩
 ·rw[decide_eq_true (.inl h0)]
 ·exact decide_eq_decide.2 om
 subst hb
 refine condT (λh0=>?_) (λh0=>c_ (λh2=>?_) (λh2=>?_))
 ·rw[if_pos h0] at h;exact h
 ·rw[if_neg h0,if_pos h2] at h;exact h
 ·rw[if_neg h0,if_neg om] at h
  subst h2
  refine⟨⟨by omega,by omega,by omega⟩,?_⟩
  refine dg (n:=o.length) (λi y=>(y.1=(i:Int)/\∀j,j<i->plE o o.length j=0)/\y.2.length=o.length/\∀v:Nat,v<o.length->(at' y.2 (v:Int)=true↔∃k<i,at' o (k:Int)=(v:Int))) (λy=>y.1) 0
   (λi y hy=>by rw[hy.1.1];omega) ⟨⟨rfl,λj hj=>absurd hj om⟩,by simp[bS],λv hv=>?_⟩ ?_ ?_
  ·constructor
   ·intro hb
    simp[at',bS,List.getD_eq_getElem?_getD,hv] at hb
   ·rintro⟨k,hk,_⟩;omega
  ·rintro i ⟨x,seen⟩ next hi ⟨⟨hx,hz⟩,hl,hs⟩ hn
   dsimp only at hx hl hs
   subst hx
   have hit:∀e,plE o o.length i=e->e≠0->Q (kK e):=λe he hne=>by
    have:=gW hz (by rw[he];exact hne) o.length hi
    rw[this,he] at h
    exact h
   refine condT (λ_=>⟨⟨by omega,by omega⟩,λb=>b=decide (at' o (i:Int)<0\/(o.length:Int)<=at' o (i:Int)),condT (λh3=>?_) (λh3=>?_),λb hb=>?_⟩) (λhc=>absurd (show(i:Int)<o.length by omega) hc)
   ·rw[decide_eq_true (.inl h3)]
   ·exact decide_eq_decide.2 om
   subst hb
   refine condT (λh3=>hit 3 (by rw[plE,if_pos h3]) (by decide)) (λh3=>⟨by omega,?_⟩)
   obtain⟨v,hv⟩:∃v:Nat,at' o (i:Int)=v:=⟨(at' o (i:Int)).toNat,by omega⟩
   have hvl:v<o.length:=om
   rw[hv]
   have hsv:=hs v hvl
   refine bk (λh4=>hit 6 (by rw[plE,if_neg h3,hv,if_pos (hsv.1 h4)]) (by decide)) (λh4=>⟨by omega,by unfold rng;omega,hn _ ⟨⟨by dsimp only;omega,λj hj=>?_⟩,by dsimp only;rw[e_];exact hl,λu hu=>?_⟩⟩)
   ·rcases Nat.lt_or_ge j i with h5 | h5
    ·exact hz j h5
    ·obtain rfl:j=i:=om
     rw[plE,if_neg h3,hv,if_neg (λhc=>by rw[hsv.2 hc] at h4;cases h4)]
   ·dsimp only
    rw[jT om]
    split
    ·rename_i he
     subst he
     exact⟨λ_=>⟨i,by omega,hv⟩,λ_=>rfl⟩
    ·rename_i he
     rw[hs u hu]
     constructor
     ·rintro⟨k,hk,hk'⟩;exact⟨k,by omega,hk'⟩
     ·rintro⟨k,hk,hk'⟩
      rcases Nat.lt_or_ge k i with h5 | h5
      ·exact⟨k,h5,hk'⟩
      ·obtain rfl:k=i:=om
       omega
  ·rintro⟨x,seen⟩ next ⟨⟨hx,hz⟩,_⟩
   dsimp only at hx
   subst hx
   refine condT (λhc=>absurd hc om) (λ_=>?_)
   rw[cp.2 hz] at h
   exact h
structure Or14 (o:List Int):Prop where
 le:o.length<=24
 rg:∀i:Nat,i<o.length->0<=at' o (i:Int)/\at' o (i:Int)<o.length
 inj:∀i j:Nat,i<o.length->j<o.length->at' o (i:Int)=at' o (j:Int)->i=j
theorem B6 {o:List Int} (h:t6 o o.length=0):Or14 o:=by
 unfold t6 at h
 split at h
 ·cases h
 ·rw[if_neg (by simp)] at h
  have hz:=cp.1 h
  have hp:∀i,i<o.length->(0<=at' o (i:Int)/\at' o (i:Int)<o.length)/\∀k,k<i->at' o (k:Int)≠at' o (i:Int):=λi hi=>by
   have:=hz i hi
   unfold plE at this
   split at this
   ·cases this
   ·split at this
    ·cases this
    ·rename_i h1 h2;exact⟨by omega,λk hk he=>h2 ⟨k,hk,he⟩⟩
  refine⟨by omega,λi hi=>(hp i hi).1,λi j hi hj he=>?_⟩
  rcases Nat.lt_trichotomy i j with h1 | h1 | h1
  ·exact absurd he ((hp j hj).2 i h1)
  ·exact h1
  ·exact absurd he.symm ((hp i hi).2 j h1)
theorem ED {o:List Int} (h:Or14 o):t6 o o.length=0:=by
 have:=h.le
 unfold t6
 rw[if_neg om,if_neg (by simp)]
 refine cp.2 λi hi=>?_
 have:=h.rg i hi
 rw[plE,if_neg om,if_neg (λ⟨k,hk,he⟩=>by have:=h.inj k i om hi he;omega)]
theorem oV:∀(m:Nat) (l:List Nat),l.Nodup->(∀x∈l,x<m)->l.length<=m
 | 0,l,_,h=>by
  cases l with
  | nil=>simp
  | cons x l=>have:=h x (by simp);omega
 | m+1,l,hd,h=>by
  by_cases hm:m∈l
  ·have h1:=oV m (l.erase m) (hd.erase m) (λx hx=>by
    have h2:=h x (List.mem_of_mem_erase hx)
    have h3:x≠m:=λhe=>by subst he;exact(hd.not_mem_erase) hx
    omega)
   have:=List.length_erase_of_mem hm
   omega
  ·have:=oV m l hd (λx hx=>by
    have h2:=h x hx
    have h3:x≠m:=λhe=>hm (he▸hx)
    omega)
   omega
theorem B9 {l:List Nat} (hd:l.Nodup) (h:∀x∈l,x<l.length) {v:Nat} (hv:v<l.length):v∈l:=by
 by_cases hm:v∈l
 ·exact hm
 ·exfalso
  have h1:=oV l.length (v :: l) (List.nodup_cons.2 ⟨hm,hd⟩) (λx hx=>by
   rcases List.mem_cons.1 hx with rfl | hx
   ·exact hv
   ·exact h x hx)
  simp at h1
  omega
def jy (o:List Int):List Nat:=o.map Int.toNat
def dw (o:List Int):Nat->Nat:=λv=>(jy o).idxOf v
section
variable {o:List Int}
theorem gT:(jy o).length=o.length:=by simp[jy]
theorem nW {i:Nat} (h:i<o.length):(jy o)[i]? = some (at' o (i:Int)).toNat:=by
 simp[jy,at',List.getD_eq_getElem?_getD,List.getElem?_eq_getElem h]
theorem Or14.nodup (h:Or14 o):(jy o).Nodup:=by
 rw[List.Nodup,List.pairwise_iff_getElem]
 intro i j hi hj hij he
 rw[gT] at hi hj
 have h1:=nW hi
 have h2:=nW hj
 rw[List.getElem?_eq_getElem (by rw[gT];exact hi)] at h1
 rw[List.getElem?_eq_getElem (by rw[gT];exact hj)] at h2
 have h3:=Option.some.inj h1
 have h4:=Option.some.inj h2
 have h5:=h.rg i hi
 have h6:=h.rg j hj
 have:=h.inj i j hi hj om
 omega
theorem Or14.all (h:Or14 o) {v:Nat} (hv:v<o.length):v∈jy o:=by
 refine B9 h.nodup (λx hx=>?_) (by rw[gT];exact hv)
 obtain⟨i,hi⟩:=List.mem_iff_getElem?.1 hx
 have hil:i<o.length:=by have:=(List.getElem?_eq_some_iff.1 hi).1;rwa[gT] at this
 rw[nW hil] at hi
 have:=h.rg i hil
 rw[gT]
 have:=Option.some.inj hi
 omega
theorem Or14.lev_at (h:Or14 o) {i:Nat} (hi:i<o.length):dw o (at' o (i:Int)).toNat=i:=by
 have h1:=nW hi
 have hil:i<(jy o).length:=by rw[gT];exact hi
 rw[List.getElem?_eq_getElem hil] at h1
 unfold dw
 rw[<-Option.some.inj h1]
 exact h.nodup.idxOf_getElem i hil
theorem Or14.at_lev (h:Or14 o) {v:Nat} (hv:v<o.length):dw o v<o.length/\at' o (dw o v:Int)=v:=by
 have hm:=h.all hv
 have hl:dw o v<(jy o).length:=List.idxOf_lt_length_of_mem hm
 have hl':dw o v<o.length:=by rwa[gT] at hl
 refine⟨hl',?_⟩
 have h1:=nW hl'
 rw[List.getElem?_eq_getElem hl] at h1
 have h2:(jy o)[dw o v]=v:=List.getElem_idxOf hl
 rw[h2] at h1
 have:=h.rg _ hl'
 have:=Option.some.inj h1
 omega
theorem Or14.ord (h:Or14 o):OrdL o.length (dw o) (jy o):=by
 refine⟨⟨λi j hi hj he=>?_,λi hi=>(h.at_lev hi).1⟩,gT,λi v hi=>?_,λv hv=>?_⟩
 ·have h1:=(h.at_lev hi).2
  have h2:=(h.at_lev hj).2
  rw[he] at h1
  omega
 ·have hil:i<o.length:=by have:=(List.getElem?_eq_some_iff.1 hi).1;rwa[gT] at this
  rw[nW hil] at hi
  have h1:=Option.some.inj hi
  have h2:=h.rg i hil
  exact⟨by omega,by rw[<-h1];exact h.lev_at hil⟩
 ·have h1:=h.at_lev hv
  rw[nW h1.1,h1.2]
  rfl
end
end Go.Gg
namespace Go.Gg
section
variable {o:List Int} {N:List GDNode}
end
end Go.Gg
namespace Go.Gg
section
variable {N:List GDNode}
theorem D4 {i:Nat} (hi:i<N.length):N[i]? = some (at' N (i:Int)):=by
 simp[at',List.getD_eq_getElem?_getD,List.getElem?_eq_getElem hi]
structure NB (N:List GDNode) (b:List Int) (ok:Bool) (next:Int) (seen:List Bool):Prop where
 nx:next=b.length
 ok:ok=true↔b=upto b.length
 len:seen.length=N.length
end
end Go.Gg
namespace Go.Gg
theorem Cn {e:Int} (h:e≠0):Option.isSome (kK e)=true:=by simp[kK,h]
theorem vO {e:Int} (h:e≠0):kK e=some e:=by simp[kK,h]
structure VD (d:GDiagram):Prop where
 ord:Or14 d.Order
 wt:WT d.Order.length (dw d.Order) d.Nodes
 root:Vd d.Nodes d.Root
 le:d.Nodes.length<=4096
 num:Ig d.Nodes d.Root.toNat []=upto d.Nodes.length
def vW (o:List Int) (f:Asg->Bool):GDiagram:=⟨o,(dx (jy o) f []).1,(dx (jy o) f []).2⟩
end Go.Gg
namespace Go.Gg
theorem D3:(2:Nat)^62=4611686018427387904:=rfl
theorem tE {a:Nat} (h:a<2^62):(BitVec.ofInt 64 (a:Int)).toNat=a:=by
 rw[BitVec.toNat_ofInt]
 rw[D3] at h
 omega
theorem F5 {a:Nat} (h:a<2^62):IntKind.i64.wrap (a:Int)=(a:Int):=by
 rw[D3] at h
 exact jf (by unfold rng;omega)
theorem Ff {a b:Nat} (ha:a<2^62) (hb:b<2^62):bits .or .i64 (a:Int) (b:Int)=((a ||| b:Nat):Int):=by
 show IntKind.i64.wrap (((BitVec.ofInt 64 (a:Int)) ||| (BitVec.ofInt 64 (b:Int))).toNat:Int)=_
 rw[BitVec.toNat_or,tE ha,tE hb]
 exact F5 (Nat.or_lt_two_pow ha hb)
theorem Bm {s i:Nat}:inS s i=s.testBit i:=by rw[inS,Nat.testBit_eq_decide_div_mod_eq]
def ju (p:Nat->Bool):Nat->Nat
 | 0=>0
 | n+1=>if p n=true then ju p n+2^n else ju p n
theorem pG {p:Nat->Bool}:∀n,ju p n<2^n
 | 0=>by simp[ju]
 | n+1=>by
  have:=pG (p:=p) n
  rw[ju,Nat.pow_succ]
  split<;>omega
theorem yd {p:Nat->Bool} (n:Nat):ju p n ||| 2^n=ju p n+2^n:=by
 have:=Nat.two_pow_add_eq_or_of_lt (pG (p:=p) n) 1
 rw[Nat.mul_one] at this
 rw[Nat.or_comm,<-this,Nat.add_comm]
theorem vY {p:Nat->Bool}:∀n i,(ju p n).testBit i=(decide (i<n) && p i)
 | 0,i=>by simp[ju]
 | n+1,i=>by
  rw[ju]
  rcases Nat.lt_trichotomy i n with h | h | h
  ·have h1:(decide (i<n+1) && p i)=(decide (i<n) && p i):=by rw[decide_eq_true h,decide_eq_true om]
   rw[h1,<-vY n i]
   split
   ·rw[<-yd,Nat.testBit_or,Nat.testBit_two_pow_of_ne om,Bool.or_false]
   ·rfl
  ·subst h
   rw[decide_eq_true (Nat.lt_succ_self i),Bool.true_and]
   have h0:(ju p i).testBit i=false:=Nat.testBit_lt_two_pow (pG i)
   cases hp:p i with
   | true=>rw[if_pos rfl,<-yd,Nat.testBit_or,h0,Nat.testBit_two_pow_self,Bool.false_or]
   | false=>rw[if_neg (by simp)];exact h0
  ·rw[decide_eq_false om,Bool.false_and]
   refine Nat.testBit_lt_two_pow (Nat.lt_of_lt_of_le (m:=2^(n+1)) ?_ (Nat.pow_le_pow_right om om))
   have:=pG (p:=p) n
   rw[Nat.pow_succ]
   split<;>omega
theorem ye {p:Nat->Bool} {n i:Nat} (h:i<n):inS (ju p n) i=p i:=by rw[Bm,vY,decide_eq_true h,Bool.true_and]
theorem Dd {n:Nat} (h:n<62):2^n<2^62:=Nat.pow_lt_pow_right om h
theorem EF {p:Nat->Bool} {n:Nat} (h:n<62):bits .or .i64 (ju p n:Int) (1*2^(Int.toNat (n:Int)))=((ju p n+2^n:Nat):Int):=by
 have e:(1*2^(Int.toNat (n:Int)):Int)=((2^n:Nat):Int):=by simp
 rw[e,Ff (Nat.lt_trans (pG n) (Dd h)) (Dd h),yd]
theorem Gm {n:Nat} (h:n<62):((0:Int)<=(n:Int)/\(n:Int)<=64)/\rng (1*2^(Int.toNat (n:Int))):=by
 refine⟨by omega,?_⟩
 have e:(1*2^(Int.toNat (n:Int)):Int)=((2^n:Nat):Int):=by simp
 have h1:=Dd h
 rw[D3] at h1
 rw[e]
 generalize 2^n=z at h1 ⊢
 unfold rng;omega
end Go.Gg
namespace Go.Gg
def stA (s:Nat):Asg:=λv=>inS s v
theorem vX {p q:Nat->Bool}:∀ {n:Nat},(∀v,v<n->p v=q v)->ju p n=ju q n
 | 0,_=>rfl
 | n+1,h=>by rw[ju,ju,vX (n:=n) (λv hv=>h v om),h n om]
theorem qF {n:Nat} (h:n<=24):2^n<=16777216:=by
 have:=Nat.pow_le_pow_right (n:=2) om h
 exact this
section
variable {o:List Int} {N:List GDNode}
theorem v_:∀(vs:List Nat) (f:Asg->Bool) (N:List GDNode),(dx vs f N).1.length+1<=N.length+2^vs.length
 | [],f,N=>by simp[dx]
 | v :: vs,f,N=>by
  have h1:=v_ vs (λσ=>f (cE σ v false)) N
  have h2:=v_ vs (λσ=>f (cE σ v true)) (dx vs (λσ=>f (cE σ v false)) N).1
  rw[dx,List.length_cons,Nat.pow_succ]
  unfold mkD
  split
  ·simp only;omega
  ·split
   ·simp only;omega
   ·simp only[List.length_append,List.length_singleton];omega
end
end Go.Gg
