/- What the functions on natural numbers compute, told of their formulas: part A. Conditions: none. -/
import Derived.Test.YtnjgdkfhgmebjaaGreatGc
import Derived.KernelRfl
import Derived.Test.YtnjgdkfhgmebjaaGreatWa
namespace Go.Gg
theorem nG (l:List Int) (i:Int):at' l i=l.getD i.toNat 0:=rfl
theorem eu (l:List Int) (i:Nat):at' l (i:Int)=l.getD i 0:=rfl
theorem d4 {α:Type} (l:List α) (i:Nat) (x:α):cg l (i:Int) x=l.set i x:=rfl
theorem oC {α:Type} (n:Nat) (x:α):fh (n:Int) x=List.replicate n x:=rfl
theorem wo {α:Type} {f:(α->Prop)->Prop} {k:α->Prop} (h:f k):cC f k:=⟨k,h,λ_ h=>h⟩
theorem fH {α:Type} {e:α} {k:α->Prop} (h:k e):iE e k:=λ_ hv=>hv▸h
theorem condT {c:Prop} [Decidable c] {a b:Prop} (h1:c->a) (h2:¬c->b):aj (decide c) a b:=⟨λh=>h1 (of_decide_eq_true h),λh=>h2 (of_decide_eq_false h)⟩
theorem ce {α:Type} [DecidableEq α] {x y:α} {a b:Prop} (h1:x=y->a) (h2:x≠y->b):aj (x == y) a b:=⟨λh=>h1 (by simpa using h),λh=>h2 (by simpa using h)⟩
theorem dz {α:Type} [DecidableEq α] {x y:α} {a b:Prop} (h1:x≠y->a) (h2:x=y->b):aj (x != y) a b:=⟨λh=>h1 (by simpa using h),λh=>h2 (by simpa using h)⟩
theorem mK {b:Nat} {n:Nat} (hb:b<=200) (h:n<=1099511627776):mL b (n:Int) (n:Int):=⟨by omega,Int.le_refl _,by
 have:(b:Int)*(n:Int)<=200*1099511627776:=Int.mul_le_mul om om om om
 omega,by omega⟩
abbrev SM (l:List Int):Prop:=l.length<=1099511627776
theorem cS {a:List Int} {i:Nat} {Q:Int->Prop} (hw:Words a) (h:Q (a.getD i 0)):cc a (i:Int) Q:=by
 refine condT (λhc=>⟨⟨by omega,hc⟩,?_⟩) (λhc=>?_)
 ·rw[eu]
  have:=hw i
  rw[wrap_u64_id om om]
  exact h
 ·rw[lh om] at h
  exact h
theorem bE {a:List Int} {Q:List Int->Prop} (hw:Words a) (hl:SM a) (h:Q (lim (val a))):bu a Q:=by
 refine⟨λn=>∃j:Nat,n=j/\j<=a.length/\(∀i,j<=i->i<a.length->a.getD i 0=0)/\(0<j->a.getD (j-1) 0≠0),?_,?_⟩
 ·refine⟨λn=>∃j:Nat,n=j/\j<=a.length/\(∀i,j<=i->i<a.length->a.getD i 0=0),λn=>n.toNat,⟨a.length,rfl,Nat.le_refl _,λi h1 h2=>om⟩,?_⟩
  rintro n ⟨j,rfl,hj,hz⟩
  refine condT (λhc=>⟨by unfold rng;omega,⟨by omega,by omega⟩,ce (λhe=>⟨by unfold rng;omega,⟨j-1,by omega,by omega,λi h1 h2=>?_⟩,by dsimp only;omega⟩) (λhe=>⟨j,rfl,hj,hz,λ_=>?_⟩)⟩) (λhc=>⟨j,rfl,hj,hz,λh0=>om⟩)
  ·by_cases hi:i=j-1
   ·subst hi
    rw[nG] at he
    have:((j:Int)-1).toNat=j-1:=om
    rwa[this] at he
   ·exact hz i om h2
  ·rw[nG] at he
   have:((j:Int)-1).toNat=j-1:=om
   rwa[this] at he
 ·rintro n ⟨j,rfl,hj,hz,hlast⟩
  have e:=mM hw hj hz hlast
  refine ce (λhc=>?_) (λhc=>⟨⟨by omega,by omega,by omega⟩,?_,?_⟩)
  ·obtain rfl:j=0:=om
   rw[<-e] at h
   exact h
  ·simp[f8]
   have:min j a.length<=a.length:=om
   omega
  ·rw[<-e] at h
   simpa[f8] using h
theorem eo {a b:List Int} {Q:Int->Prop} (ha:Words a) (hb:Words b) (la:SM a) (lb:SM b) (h:Q (jZ (val a) (val b))):cO a b Q:=by
 refine bE ha la (bE hb lb ?_)
 have b1:=cK ha
 have b2:=cK hb
 have w1:=aq (val a)
 have w2:=aq (val b)
 have v1:=bG w1
 have v2:=bG w2
 rw[aB] at v1 v2
 generalize hA:lim (val a)=A at *
 generalize hB:lim (val b)=B at *
 have hlt:A.length<B.length->val a<val b:=λh=>by
  rw[<-hA,<-hB] at h
  rcases Nat.lt_or_ge (val a) (val b) with h' | h'
  ·exact h'
  ·have:=b8 h'
   omega
 have hgt:B.length<A.length->val b<val a:=λh=>by
  rw[<-hA,<-hB] at h
  rcases Nat.lt_or_ge (val b) (val a) with h' | h'
  ·exact h'
  ·have:=b8 h'
   omega
 unfold SM at la lb
 refine dz (λhc=>condT (λh1=>?_) (λh1=>?_)) (λhc=>⟨by unfold rng;omega,?_⟩)
 ·rw[jZ,if_pos (hlt om)] at h;exact h
 ·have:=hgt om
  rw[jZ,if_neg om,if_neg om] at h;exact h
 ·have hlen:A.length=B.length:=om
  refine⟨λi=>∃j:Nat,i=(j:Int)-1/\j<=A.length/\(∀k,j<=k->k<A.length->A.getD k 0=B.getD k 0),λi=>(i+1).toNat,⟨A.length,rfl,Nat.le_refl _,λk h1 h2=>om⟩,?_⟩
  rintro i ⟨j,rfl,hj,he⟩
  have hj1:((j:Int)-1).toNat=j-1:=om
  refine condT (λhc=>⟨⟨by omega,by omega⟩,⟨by omega,by omega⟩,?_⟩) (λhc=>?_)
  ·rw[nG,nG,hj1]
   refine condT (λh1=>?_) (λh1=>⟨⟨by omega,by omega⟩,⟨by omega,by omega⟩,condT (λh2=>?_) (λh2=>⟨by unfold rng;omega,⟨j-1,by omega,by omega,λk h3 h4=>?_⟩,by dsimp only;omega⟩)⟩)
   ·have:=t1 w1 w2 (i:=j-1) (n:=A.length) om h1 (λk h1 h2=>he k om h2)
    rw[<-hlen] at v2
    rw[jZ,if_pos om] at h;exact h
   ·have:=t1 w2 w1 (i:=j-1) (n:=A.length) om h2 (λk h1 h2=>(he k om h2).symm)
    rw[<-hlen] at v2
    rw[jZ,if_neg om,if_neg om] at h;exact h
   ·by_cases hk:k=j-1
    ·subst hk;omega
    ·exact he k om h4
  ·have:=gP (l:=A) (m:=B) A.length (λk hk=>he k om hk)
   rw[<-hlen] at v2
   rw[jZ,if_neg om,if_pos om] at h;exact h
theorem qf {a b:List Int} {Q:List Int->Prop} (ha:Words a) (hb:Words b) (la:SM a) (lb:a.length<=1099511627775/\b.length<=1099511627775) (h:Q (lim (val a+val b))):gD a b Q:=by
 unfold SM at la
 obtain⟨n,hn0⟩:∃n,n=max a.length b.length+1:=⟨_,rfl⟩
 have hn:max (a.length:Int) (b.length:Int)+1=(n:Int):=om
 unfold gD
 rw[hn]
 refine⟨by unfold rng;omega,mK om om,?_⟩
 rw[Int.toNat_natCast]
 refine⟨λy=>∃i:Nat,y.2.1=i/\i<=n/\y.2.2.length=n/\Words y.2.2/\0<=y.1/\y.1<=1/\pv y.2.2 i+y.1*4294967296^i=pv a i+pv b i,λy=>n-y.2.1.toNat,⟨0,rfl,by omega,by simp[fh],Words.rep n,by omega,by omega,by simp[pv]⟩,?_⟩
 rintro⟨c,x,out⟩ ⟨i,hx,hi,hlen,hw,hc0,hc1,hpv⟩
 simp only at hx hi hlen hw hc0 hc1 hpv
 subst hx
 have hxl:=ha i
 have hxm:=hb i
 refine condT (λhlt=>?_) (λhge=>?_)
 ·refine cS ha (cS hb (fH ⟨⟨by omega,by omega⟩,by unfold rng;omega,?_,?_⟩))
  ·simp (disch:=omega) only[d4,wrap_u64_id,wrap_u32]
   refine⟨i+1,by omega,by omega,by simp[hlen],hw.set _ om om,by show 0<=_ / 4294967296;omega,by show _ / 4294967296<=1;omega,?_⟩
   show pv (out.set i _) (i+1)+_ / 4294967296*_=_
   rw[pf om,Int.pow_succ,pv,pv,Int.add_assoc,i7]
   have:=Int.add_mul c (a.getD i 0+b.getD i 0) (4294967296^i)
   have:=Int.add_mul (a.getD i 0) (b.getD i 0) (4294967296^i)
   omega
  ·show n-((i:Int)+1).toNat<n-(i:Int).toNat
   omega
 ·obtain rfl:i=n:=om
  refine bE hw (by unfold SM;omega) ?_
  have e:val out=val a+val b:=by
   have a1:=cX hw (i:=i) om
   have a2:=cX ha (i:=i) om
   have a3:=cX hb (i:=i) om
   have b2:=j3 (l:=a) (i-1) om
   have b3:=j3 (l:=b) (i-1) om
   have b4:=j3 (l:=a) i om
   have b5:=j3 (l:=b) i om
   have c2:=(bc ha (i-1)).2
   have c3:=(bc hb (i-1)).2
   have hi1:i=i-1+1:=om
   have hc:=hpv
   rw[hi1,Int.pow_succ,<-hi1] at hc
   have:=pH hc om om om hc0 hc1 (dv _)
   subst this
   omega
  rw[e]
  exact h
theorem lF {a b:List Int} {Q:List Int->Option Int->Prop} (ha:Words a) (hb:Words b) (la:SM a) (lb:SM b) (h1:val a<val b->Q [] (some 3)) (h2:val b<=val a->Q (lim (val a-val b)) none):gB a b Q:=by
 refine eo ha hb la lb (condT (λhc=>h1 (iv.1 hc)) (λhc=>⟨mK om la,?_⟩))
 have hge:val b<=val a:=by have:=mt iv.2 hc;omega
 have h:=h2 hge
 clear h1 h2
 unfold SM at la lb
 rw[Int.toNat_natCast]
 refine⟨λy=>∃i:Nat,y.2.1=i/\i<=a.length/\y.2.2.length=a.length/\Words y.2.2/\0<=y.1/\y.1<=1/\pv y.2.2 i=pv a i-pv b i+y.1*4294967296^i,λy=>a.length-y.2.1.toNat,⟨0,rfl,by omega,by simp[fh],Words.rep _,by omega,by omega,by simp[pv]⟩,?_⟩
 rintro⟨c,x,out⟩ ⟨i,hx,hi,hlen,hw,hb0,hb1,hpv⟩
 simp only at hx hi hlen hw hb0 hb1 hpv
 subst hx
 have hxl:=ha i
 have hxm:=hb i
 obtain⟨q1,q2,q3⟩:=oL (a.getD i 0) (b.getD i 0) c hxl hxm ⟨hb0,hb1⟩
 refine condT (λhlt=>cS ha (cS hb (fH ⟨⟨by omega,by omega⟩,by unfold rng;omega,?_,by dsimp only;omega⟩))) (λhge=>?_)
 ·simp only[d4,wrap_u32]
  generalize IntKind.u64.wrap (IntKind.u64.wrap (a.getD i 0-b.getD i 0)-c)=d at *
  have e63:d / 2^Int.toNat 63=d / 9223372036854775808:=rfl
  refine⟨i+1,by omega,by omega,by simp[hlen],hw.set _ om om,by simpa only[e63] using q2,by simpa only[e63] using q3,?_⟩
  simp only[e63]
  rw[pf om,Int.pow_succ,pv,pv,hpv]
  have e:d % 4294967296=a.getD i 0-b.getD i 0-c+4294967296*(d / 9223372036854775808):=om
  rw[e]
  generalize d / 9223372036854775808=d'
  have a1:=Int.add_mul (a.getD i 0-b.getD i 0-c) (4294967296*d') (4294967296^i)
  have a2:=Int.sub_mul (a.getD i 0-b.getD i 0) c (4294967296^i)
  have a3:=Int.sub_mul (a.getD i 0) (b.getD i 0) (4294967296^i)
  have a4:4294967296*d'*4294967296^i=d'*(4294967296^i*4294967296):=by rw[Int.mul_comm 4294967296 d',Int.mul_assoc,Int.mul_comm 4294967296]
  omega
 ·obtain rfl:i=a.length:=om
  refine bE hw (by unfold SM;omega) ?_
  have e:val out=val a-val b:=by
   have a1:=cX hw (i:=a.length) om
   have a2:=bG ha
   have a3:=bc ha a.length
   have a4:=bc hw a.length
   have a5:=bc hb a.length
   have a6:=bG hb
   rcases Nat.lt_or_ge a.length b.length with h | h
   ·have hm1:=kY hb (Nat.le_of_lt h)
    rcases (by omega:c=0\/c=1) with rfl | rfl
    ·
     have hz:pv b b.length=pv b a.length:=by
      refine mC hb (Nat.le_of_lt h) ?_
      omega
     omega
    ·omega
   ·have hm1:=cX hb h
    rcases (by omega:c=0\/c=1) with rfl | rfl<;>omega
  rw[e]
  exact h
theorem dF {a b:List Int} {Q:List Int->Prop} (ha:Words a) (hb:Words b) (la:a.length+b.length<=1099511627776) (h:Q (lim (val a*val b))):cx a b Q:=by
 obtain⟨N,hN⟩:∃N,N=a.length+b.length:=⟨_,rfl⟩
 have hNi:(a.length:Int)+(b.length:Int)=(N:Int):=om
 unfold cx
 rw[hNi]
 refine⟨by unfold rng;omega,mK om om,?_⟩
 refine⟨λy=>∃i:Nat,y.1=i/\i<=a.length/\y.2.length=N/\Words y.2/\(∀p,i+b.length<=p->y.2.getD p 0=0)/\pv y.2 N=pv a i*pv b b.length,λy=>a.length-y.1.toNat,
  ⟨0,rfl,by omega,by simp[fh],Words.rep _,λp hp=>by rw[oC,List.getD_eq_getElem?_getD,List.getElem?_replicate];split<;>rfl,by rw[oC,lX];simp[pv]⟩,?_⟩
 rintro⟨x,out⟩ ⟨i,hx,hi,hlen,hw,hz,hpv⟩
 simp only at hx hi hlen hw hz hpv
 subst hx
 have hxi:=ha i
 refine condT (λhlt=>⟨⟨by omega,hlt⟩,?_⟩) (λhge=>?_)
 ·refine⟨λy=>∃k:Nat,y.2.1=k/\k<=b.length/\y.2.2.length=N/\Words y.2.2/\(∀p,i+b.length<=p->y.2.2.getD p 0=0)/\0<=y.1/\y.1<4294967296/\
    pv y.2.2 N+y.1*4294967296^(i+k)=pv a i*pv b b.length+a.getD i 0*4294967296^i*pv b k,λy=>b.length-y.2.1.toNat,
   ⟨0,rfl,by omega,hlen,hw,hz,by omega,by omega,by simp[pv,hpv]⟩,?_⟩
  clear hpv hz hw hlen h
  rintro⟨c,x1,out2⟩ ⟨k,hx,hk,hlen,hw,hz,hc0,hc1,hpv⟩
  simp only at hx hk hlen hw hz hc0 hc1 hpv
  subst hx
  have hy:=hb k
  have ho:=hw (i+k)
  obtain⟨q1,q2⟩:=sD hxi hy
  have eik:(i:Int)+(k:Int)=((i+k:Nat):Int):=om
  have eib:(i:Int)+(b.length:Int)=((i+b.length:Nat):Int):=om
  refine condT (λhlt2=>⟨⟨by omega,hlt2⟩,by unfold rng;omega,⟨by omega,by omega⟩,fH ⟨by unfold rng;omega,⟨by omega,by omega⟩,by unfold rng;omega,?_,by dsimp only;omega⟩⟩) (λhge2=>⟨by unfold rng;omega,⟨by omega,by omega⟩,by unfold rng;omega,?_,by dsimp only;omega⟩)
  ·simp only[eik,eu,d4]
   simp (disch:=omega) only[wrap_u64_id,wrap_u32]
   have e32:∀z:Int,z / 2^Int.toNat 32=z / 4294967296:=λ_=>rfl
   simp only[e32]
   generalize hv:c+(a.getD i 0*b.getD k 0+out2.getD (i+k) 0)=v
   refine⟨k+1,by omega,by omega,by simp[hlen],hw.set _ om om,λp hp=>?_,by show 0<=v / 4294967296;omega,by show v / 4294967296<4294967296;omega,?_⟩
   ·show(out2.set (i+k) _).getD p 0=0
    rw[bL om];exact hz p hp
   ·show pv (out2.set (i+k) (v % 4294967296)) N+v / 4294967296*4294967296^(i+(k+1))=_
    rw[eI om N om,pv,<-Nat.add_assoc,Int.pow_succ,Int.mul_add,<-Int.add_assoc,<-hpv]
    have s1:=i7 v (4294967296^(i+k))
    have s2:=Int.sub_mul (v % 4294967296) (out2.getD (i+k) 0) (4294967296^(i+k))
    have s3:v*4294967296^(i+k)=c*4294967296^(i+k)+(a.getD i 0*4294967296^i*(b.getD k 0*4294967296^k)+out2.getD (i+k) 0*4294967296^(i+k)):=by
     rw[<-hv,Int.add_mul,Int.add_mul,Int.pow_add]
     congr 2
     rw[Int.mul_assoc,Int.mul_assoc,Int.mul_left_comm (b.getD k 0)]
    omega
  ·obtain rfl:k=b.length:=om
   simp only[eib,d4,wrap_u32]
   have hcm:c % 4294967296=c:=om
   rw[hcm]
   refine⟨i+1,by omega,by omega,by simp[hlen],hw.set _ om om,λp hp=>?_,?_⟩
   ·show(out2.set (i+b.length) c).getD p 0=0
    rw[bL om];exact hz p om
   ·show pv (out2.set (i+b.length) c) N=pv a (i+1)*_
    rw[eI om N om,hz (i+b.length) om,pv,Int.add_mul,Int.sub_zero]
    exact hpv
 ·obtain rfl:i=a.length:=om
  refine bE hw (by unfold SM;omega) ?_
  have e:val out=val a*val b:=by
   have a1:=cX hw (i:=N) om
   have a2:=bG ha
   have a3:=bG hb
   have:((val a*val b:Nat):Int)=(val a:Int)*(val b:Int):=by simp
   have:(val out:Int)=((val a*val b:Nat):Int):=by rw[this,a1,hpv,a2,a3]
   omega
  rw[e]
  exact h
end Go.Gg
namespace Go.Gg
theorem vY {x y i:Nat} (hx:x<2^i) (hy:2^i ∣ y):y ||| x=y+x:=by
 obtain⟨z,rfl⟩:=hy
 rw[Nat.mul_comm,<-Nat.shiftLeft_eq,Nat.shiftLeft_add_eq_or_of_lt hx]
theorem pm {x y:Int} (i:Nat) (hx:0<=x) (hxi:x<2^i) (hy:0<=y) (hyi:y % 2^i=0) (hs:y+x<18446744073709551616):bits .or .u64 y x=y+x:=by
 obtain⟨m,rfl⟩:=Int.eq_ofNat_of_zero_le hx
 obtain⟨n,rfl⟩:=Int.eq_ofNat_of_zero_le hy
 have h1:m<2^i:=by exact_mod_cast hxi
 have h2:2^i ∣ n:=by
  have:(n:Int) % ((2^i:Nat):Int)=0:=by simpa using hyi
  exact Nat.dvd_of_mod_eq_zero om
 have h3:=vY h1 h2
 show IntKind.u64.wrap (((BitVec.ofInt 64 (n:Int)) ||| (BitVec.ofInt 64 (m:Int))).toNat:Int)=_
 rw[km,BitVec.toNat_or,BitVec.toNat_ofInt,BitVec.toNat_ofInt]
 have e1:((n:Int) % ((2^64:Nat):Int)).toNat=n:=om
 have e2:((m:Int) % ((2^64:Nat):Int)).toNat=m:=om
 rw[e1,e2,h3]
 omega
theorem ra {x y:Int} (i:Nat) (hx:0<=x) (hxi:x<2^i) (hy:0<=y) (hyi:y % 2^i=0) (hs:y+x<18446744073709551616):bits .or .u64 x y=y+x:=by
 rw[<-pm i hx hxi hy hyi hs]
 show IntKind.u64.wrap (((BitVec.ofInt 64 x) ||| (BitVec.ofInt 64 y)).toNat:Int)=IntKind.u64.wrap (((BitVec.ofInt 64 y) ||| (BitVec.ofInt 64 x)).toNat:Int)
 rw[BitVec.or_comm]
theorem xd {x y:Int} (i:Nat) (hx:0<=x) (hxi:x<2^i) (hy:0<=y) (hyi:y % 2^i=0) (hs:y+x<4294967296):bits .or .u32 x y=y+x:=by
 obtain⟨m,rfl⟩:=Int.eq_ofNat_of_zero_le hx
 obtain⟨n,rfl⟩:=Int.eq_ofNat_of_zero_le hy
 have h1:m<2^i:=by exact_mod_cast hxi
 have h2:2^i ∣ n:=by
  have:(n:Int) % ((2^i:Nat):Int)=0:=by simpa using hyi
  exact Nat.dvd_of_mod_eq_zero om
 have h3:=vY h1 h2
 show IntKind.u32.wrap (((BitVec.ofInt 32 (m:Int)) ||| (BitVec.ofInt 32 (n:Int))).toNat:Int)=_
 rw[wrap_u32,BitVec.toNat_or,BitVec.toNat_ofInt,BitVec.toNat_ofInt]
 have e1:((n:Int) % ((2^32:Nat):Int)).toNat=n:=om
 have e2:((m:Int) % ((2^32:Nat):Int)).toNat=m:=om
 rw[e1,e2,Nat.or_comm,h3]
 omega
def bv (n:Nat):Nat:=if n=0 then 0 else n.log2+1
theorem qJ:bv 0=0:=rfl
theorem lk {n:Nat}:n<2^bv n:=by
 unfold bv
 split
 ·omega
 ·exact Nat.lt_log2_self
theorem j0 {n:Nat} (h:n≠0):2^(bv n-1)<=n:=by
 unfold bv
 rw[if_neg h]
 exact Nat.log2_self_le h
theorem nE {n k:Nat} (h:n<2^k) (h':k≠0->2^(k-1)<=n):bv n=k:=by
 by_cases h0:n=0
 ·subst h0
  cases k with
  | zero=>rfl
  | succ k=>have:=h' om;have:0<2^k:=Nat.pow_pos om;simp at *
 ·have a:=lk (n:=n)
  have b:=j0 h0
  have hk:k≠0:=by rintro rfl;simp at h;omega
  have c:=h' hk
  have hb:bv n≠0:=by unfold bv;rw[if_neg h0];omega
  rcases Nat.lt_trichotomy (bv n) k with hlt | he | hgt
  ·have:2^bv n<=2^(k-1):=Nat.pow_le_pow_right om om
   omega
  ·exact he
  ·have:2^k<=2^(bv n-1):=Nat.pow_le_pow_right om om
   omega
theorem pM {n k:Nat} (h:2^k<=n):bv n=bv (n / 2^k)+k:=by
 have hp:0<2^k:=Nat.pow_pos om
 have hq:n / 2^k≠0:=by have:=Nat.div_pos h hp;omega
 have a:=lk (n:=n / 2^k)
 have b:=j0 hq
 have hb:bv (n / 2^k)≠0:=by unfold bv;rw[if_neg hq];omega
 refine nE ?_ (λ_=>?_)
 ·rw[Nat.pow_add]
  rw[Nat.div_lt_iff_lt_mul hp] at a
  exact a
 ·have e:bv (n / 2^k)+k-1=(bv (n / 2^k)-1)+k:=om
  rw[e,Nat.pow_add]
  rw[Nat.le_div_iff_mul_le hp] at b
  exact b
theorem wV:(List.range 256).all (λk=>l8 eS k == (bv k:Int))=true:=by kernel_rfl
theorem x_ {k:Nat} (h:k<256):l8 eS k=(bv k:Int):=by
 have:=List.all_eq_true.1 wV k (by simpa using h)
 simpa using this
theorem vF:eS.size=256:=by kernel_rfl
theorem uc {x:Nat} {Q:Int->Prop} (hx:x<4294967296) (h:Q (bv x)):eA (x:Int) Q:=by
 refine⟨λy=>∃z k:Nat,y=((z:Int),(k:Int))/\z<65536/\k<=16/\bv x=bv z+k,?_,?_⟩
 ·refine condT (λhc=>⟨x / 65536,16,?_,by omega,by omega,?_⟩) (λhc=>⟨x,0,rfl,by omega,by omega,rfl⟩)
  ·show((x:Int) / 65536,(16:Int))=_
   rw[Prod.mk.injEq];exact⟨by omega,rfl⟩
  ·exact pM (k:=16) om
 ·rintro _ ⟨z,k,rfl,hz,hk,hb⟩
  refine⟨λy=>∃z k:Nat,y=((z:Int),(k:Int))/\z<256/\k<=24/\bv x=bv z+k,?_,?_⟩
  ·refine condT (λhc=>⟨by unfold rng;omega,z / 256,k+8,?_,by omega,by omega,?_⟩) (λhc=>⟨z,k,rfl,by omega,by omega,hb⟩)
   ·show((z:Int) / 256,(k:Int)+8)=_
    rw[Prod.mk.injEq];exact⟨by omega,by omega⟩
   ·have h8:=pM (n:=z) (k:=8) om
    have e:z / 2^8=z / 256:=rfl
    rw[e] at h8
    omega
  ·rintro _ ⟨z,k,rfl,hz,hk,hb⟩
   show(_/\_)
   have hw:IntKind.u8.wrap (z:Int)=z:=by rw[wrap_u8];omega
   have hz':(bv z:Int)<=8:=by
    have:bv z<=8:=by
     by_cases h0:z=0
     ·subst h0;simp[bv]
     ·have:=j0 h0
      rcases Nat.lt_or_ge 8 (bv z) with h8 | h8
      ·have:2^8<=2^(bv z-1):=Nat.pow_le_pow_right om om
       omega
      ·exact h8
    omega
   rw[hw,vF]
   have e:(Int.toNat (z:Int))=z:=om
   rw[e,x_ hz,gM (by unfold rng;omega)]
   refine⟨⟨by omega,by omega⟩,by unfold rng;omega,fH ?_⟩
   have:(k:Int)+(bv z:Int)=((bv x:Nat):Int):=om
   rw[this]
   exact h
theorem lm {x:Nat} (hx:x<4294967296):bv x<=32:=by
 by_cases h0:x=0
 ·subst h0;simp[bv]
 ·have:=j0 h0
  rcases Nat.lt_or_ge 32 (bv x) with h8 | h8
  ·have:2^32<=2^(bv x-1):=Nat.pow_le_pow_right om om
   omega
  ·exact h8
theorem yp {x:Nat} {Q:Int->Prop} (hx:x<4294967296) (h:Q ((32-bv x:Nat):Int)):dj (x:Int) Q:=by
 refine uc hx ?_
 have h1:=lm hx
 refine⟨by unfold rng;omega,?_⟩
 have:(32:Int)-(bv x:Int)=((32-bv x:Nat):Int):=om
 rw[this]
 exact h
end Go.Gg
namespace Go.Gg
theorem kU {n:Nat} (h:n<=32):(2:Int)^n*2^(32-n)=4294967296:=by
 rw[<-Int.pow_add]
 have:n+(32-n)=32:=om
 rw[this];rfl
theorem dM (n:Nat):(0:Int)<2^n:=Int.pow_pos om
theorem kE {a:List Int} {n:Nat} {Q:List Int->Prop} (ha:Words a) (la:a.length<=1099511627775) (hn:n<=32) (h:∀out,Words out->out.length=a.length+1->val out=val a*2^n->Q out):di a (n:Int) Q:=by
 have hL:(a.length:Int)+1=((a.length+1:Nat):Int):=om
 unfold di
 rw[hL]
 have hs:=kU hn
 have hpp:=dM n
 have hqp:=dM (32-n)
 generalize hp:(2:Int)^n=p at *
 generalize (2:Int)^(32-n)=q at *
 have hple:p<=4294967296:=by
  have:p*1<=p*q:=Int.mul_le_mul_of_nonneg_left om om
  omega
 have hdvd:p ∣ 4294967296:=⟨q,hs.symm⟩
 refine⟨by unfold rng;omega,mK om om,λy=>∃i:Nat,y.1=i/\i<=a.length/\y.2.length=a.length+1/\Words y.2/\(∀k,i<k->y.2.getD k 0=0)/\y.2.getD i 0<p/\pv y.2 (i+1)=pv a i*p,λy=>a.length-y.1.toNat,
  ⟨0,rfl,by omega,by simp[fh],Words.rep _,λk hk=>?_,?_,?_⟩,?_⟩
 ·show(List.replicate (a.length+1) (0:Int)).getD k 0=0
  rw[List.getD_eq_getElem?_getD,List.getElem?_replicate];split<;>rfl
 ·show(List.replicate (a.length+1) (0:Int)).getD 0 0<p
  simp;omega
 ·show pv (List.replicate (a.length+1) (0:Int)) 1=_
  rw[lX];simp[pv]
 rintro⟨x,out⟩ ⟨i,hx,hi,hlen,hw,hz,hlow,hpv⟩
 simp only at hx hi hlen hw hz hlow hpv
 subst hx
 have hxi:=ha i
 have hoi:=hw i
 refine condT (λhlt=>⟨⟨by omega,hlt⟩,⟨by omega,by omega⟩,?_⟩) (λhge=>?_)
 ·rw[eu,Int.toNat_natCast,hp]
  have hy0:0<=a.getD i 0*p:=Int.mul_nonneg hxi.1 om
  have hy1:a.getD i 0*p<4294967296*p:=Int.mul_lt_mul_of_pos_right hxi.2 hpp
  have hy2:4294967296*p<=4294967296*4294967296:=Int.mul_le_mul_of_nonneg_left hple om
  rw[wrap_u64_id hxi.1 om,wrap_u64_id hy0 om]
  refine fH ?_
  have hdy:p ∣ a.getD i 0*p:=⟨_,Int.mul_comm _ _⟩
  have hhi:a.getD i 0*p / 4294967296<p:=by
   rw[Int.ediv_lt_iff_lt_mul om]
   rw[Int.mul_comm p];exact hy1
  generalize hv:a.getD i 0*p=y at *
  refine⟨⟨by omega,by omega⟩,⟨by omega,by omega⟩,by unfold rng;omega,⟨by omega,by omega⟩,by unfold rng;omega,?_,by dsimp only;omega⟩
  have e1:(i:Int)+1=((i+1:Nat):Int):=om
  have e32:y / 2^Int.toNat 32=y / 4294967296:=rfl
  have hm:(y % 4294967296) % p=0:=by rw[Int.emod_emod_of_dvd _ hdvd];exact Int.emod_eq_zero_of_dvd hdy
  have hh0:0<=y / 4294967296:=om
  have hor:bits .or .u32 (out.getD i 0) (y % 4294967296)=y % 4294967296+out.getD i 0:=by
   refine xd n hoi.1 (by rw[hp];exact hlow) om (by rw[hp];exact hm) ?_
   obtain⟨z,hz'⟩:=Int.dvd_of_emod_eq_zero hm
   have:z<q:=by
    rcases Int.lt_or_le z q with h1 | h1
    ·exact h1
    ·have:p*q<=p*z:=Int.mul_le_mul_of_nonneg_left h1 om
     omega
   have:p*z<=p*(q-1):=Int.mul_le_mul_of_nonneg_left om om
   rw[Int.mul_sub,hs] at this
   omega
  rw[e1,eu,d4,d4,e32,wrap_u32,wrap_u32,hor]
  have hlo:y % 4294967296+out.getD i 0<4294967296:=by
   obtain⟨z,hz'⟩:=Int.dvd_of_emod_eq_zero hm
   have:z<q:=by
    rcases Int.lt_or_le z q with h1 | h1
    ·exact h1
    ·have:p*q<=p*z:=Int.mul_le_mul_of_nonneg_left h1 om
     omega
   have:p*z<=p*(q-1):=Int.mul_le_mul_of_nonneg_left om om
   rw[Int.mul_sub,hs] at this
   omega
  have hmod:y / 4294967296 % 4294967296=y / 4294967296:=om
  rw[hmod]
  refine⟨i+1,rfl,by omega,by simp[hlen],(hw.set _ om om).set _ hh0 om,λk hk=>?_,?_,?_⟩
  ·show((out.set i _).set (i+1) _).getD k 0=0
   rw[bL om,bL om]
   exact hz k om
  ·show((out.set i _).set (i+1) _).getD (i+1) 0<p
   rw[gH (by simp;omega)]
   exact hhi
  ·show pv ((out.set i _).set (i+1) _) (i+1+1)=_
   rw[pf (by simp;omega),pf om,pv,Int.pow_succ]
   rw[pv] at hpv
   have s4:=Int.add_mul (pv a i) (a.getD i 0*4294967296^i) p
   have s1:=i7 y (4294967296^i)
   have s2:=Int.add_mul (y % 4294967296) (out.getD i 0) (4294967296^i)
   have s3:a.getD i 0*4294967296^i*p=y*4294967296^i:=by rw[<-hv,Int.mul_assoc,Int.mul_comm _ p,<-Int.mul_assoc]
   omega
 ·obtain rfl:i=a.length:=om
  refine h out hw hlen ?_
  have a1:=bG hw
  have a2:=bG ha
  rw[hlen,hpv,<-a2] at a1
  have:((val a*2^n:Nat):Int)=(val a:Int)*p:=by rw[<-hp];simp
  have:(val out:Int)=((val a*2^n:Nat):Int):=by rw[this];exact a1
  omega
theorem oe {a:List Int} {n:Nat} {Q:List Int->Prop} (ha:Words a) (la:SM a) (hn:n<=32) (h:∀out,Words out->out.length=a.length->val out=val a / 2^n->Q out):fx a (n:Int) Q:=by
 unfold SM at la
 unfold fx
 have hs:=kU hn
 have hpp:=dM n
 have hqp:=dM (32-n)
 generalize hp:(2:Int)^n=p at *
 generalize (2:Int)^(32-n)=q at *
 have hdvd:p ∣ 4294967296:=⟨q,hs.symm⟩
 refine⟨mK om la,λy=>∃i:Nat,y.1=i/\i<=a.length/\y.2.length=a.length/\Words y.2/\pv y.2 i*p=pv a i-a.getD 0 0 % p+(a.getD i 0 % p)*4294967296^i,λy=>a.length-y.1.toNat,
  ⟨0,rfl,by omega,by simp[fh],Words.rep _,by simp[pv];omega⟩,?_⟩
 rintro⟨x,out⟩ ⟨i,hx,hi,hlen,hw,hpv⟩
 simp only at hx hi hlen hw hpv
 subst hx
 have h0:=ha i
 have h1:=ha (i+1)
 have e1:(i:Int)+1=((i+1:Nat):Int):=om
 refine condT (λhlt=>cS ha ⟨by unfold rng;omega,?_⟩) (λhge=>?_)
 ·rw[e1]
  refine cS ha ⟨⟨by omega,by omega⟩,⟨by omega,by omega⟩,by unfold rng;omega,?_,by dsimp only;omega⟩
  have e32:(2:Int)^Int.toNat 32=4294967296:=rfl
  rw[e32,Int.toNat_natCast,hp,wrap_u64_id om om,ra 32 h0.1 h0.2 om (by show _ % 4294967296=0;omega) om,d4,wrap_u32]
  generalize ha0:a.getD i 0=x0 at *
  generalize ha1:a.getD (i+1) 0=x1 at *
  have hx0:0<=x0 / p:=Int.ediv_nonneg h0.1 om
  have hx0':x0 / p<q:=by rw[Int.ediv_lt_iff_lt_mul hpp,Int.mul_comm,hs];exact h0.2
  have hm0:0<=x1 % p:=Int.emod_nonneg _ om
  have hm1:x1 % p<p:=Int.emod_lt_of_pos _ hpp
  have hdv:(x1*4294967296+x0) / p=x1*q+x0 / p:=by
   rw[<-hs,Int.mul_left_comm,Int.add_comm,Int.add_mul_ediv_left _ _ om,Int.add_comm]
  have hk:(x1*4294967296+x0) / p % 4294967296=(x1 % p)*q+x0 / p:=by
   have d1:x1=p*(x1 / p)+x1 % p:=(Int.mul_ediv_add_emod x1 p).symm
   have d2:x1*q+x0 / p=(x1 % p)*q+x0 / p+4294967296*(x1 / p):=by
    have:x1*q=(p*(x1 / p)+x1 % p)*q:=by rw[<-d1]
    rw[this,Int.add_mul,Int.mul_right_comm,hs];omega
   rw[hdv,d2,Int.add_mul_emod_self_left]
   refine Int.emod_eq_of_lt ?_ ?_
   ·have:=Int.mul_nonneg hm0 (Int.le_of_lt hqp);omega
   ·have:(x1 % p)*q<=(p-1)*q:=Int.mul_le_mul_of_nonneg_right om om
    rw[Int.sub_mul,hs] at this;omega
  rw[hk]
  have hq0:=Int.mul_nonneg hm0 (Int.le_of_lt hqp)
  have hq1:(x1 % p)*q<=(p-1)*q:=Int.mul_le_mul_of_nonneg_right om om
  rw[Int.sub_mul,hs] at hq1
  refine⟨i+1,rfl,by omega,by simp[hlen],hw.set _ om om,?_⟩
  show pv (out.set i (x1 % p*q+x0 / p)) (i+1)*p=pv a (i+1)-_+_
  rw[pf om,pv,Int.add_mul,hpv,ha0,ha1,Int.pow_succ]
  have d0:x0=p*(x0 / p)+x0 % p:=(Int.mul_ediv_add_emod x0 p).symm
  have s1:(x1 % p*q+x0 / p)*4294967296^i*p=x1 % p*(4294967296^i*4294967296)+(p*(x0 / p))*4294967296^i:=by
   rw[Int.add_mul,Int.add_mul]
   congr 1
   ·rw[<-hs,Int.mul_assoc,Int.mul_assoc,Int.mul_left_comm q,Int.mul_comm q p]
   ·rw[Int.mul_right_comm,Int.mul_comm (x0 / p)]
  have s2:x0*4294967296^i=(p*(x0 / p))*4294967296^i+x0 % p*4294967296^i:=by
   rw[<-Int.add_mul,<-d0]
  omega
 ·obtain rfl:i=a.length:=om
  refine h out hw hlen ?_
  have a1:=bG hw
  have a2:=bG ha
  rw[hlen] at a1
  rw[lh (Nat.le_refl a.length),Int.zero_emod,Int.zero_mul,<-a2,<-a1] at hpv
  have hr0:0<=a.getD 0 0 % p:=Int.emod_nonneg _ om
  have hr1:a.getD 0 0 % p<p:=Int.emod_lt_of_pos _ hpp
  have e:(val a:Int) / p=val out:=by
   have:(val a:Int)=p*val out+a.getD 0 0 % p:=by rw[Int.mul_comm];omega
   rw[this,Int.add_comm,Int.add_mul_ediv_left _ _ om,Int.ediv_eq_zero_of_lt hr0 hr1];omega
  have e2:((val a / 2^n:Nat):Int)=(val a:Int) / p:=by rw[<-hp];simp
  omega
theorem od {a:List Int} {b:Int} {Q:List Int->Int->Prop} (ha:Words a) (la:SM a) (hb0:0<b) (hb1:b<4294967296) (h:Q (lim (val a / b.toNat)) ((val a % b.toNat:Nat):Int)):fw a b Q:=by
 unfold SM at la
 unfold fw
 rw[wrap_u64_id om om]
 refine⟨mK om la,by unfold rng;omega,λy=>∃j:Nat,y.2.1=(j:Int)-1/\j<=a.length/\y.2.2.length=a.length/\Words y.2.2/\(∀k,k<j->y.2.2.getD k 0=0)/\0<=y.1/\y.1<b/\pv y.2.2 a.length*b+y.1*4294967296^j=pv a a.length-pv a j,
  λy=>(y.2.1+1).toNat,⟨a.length,rfl,by omega,by simp[fh],Words.rep _,λk hk=>?_,by omega,hb0,?_⟩,?_⟩
 ·show(List.replicate a.length (0:Int)).getD k 0=0
  rw[List.getD_eq_getElem?_getD,List.getElem?_replicate];split<;>rfl
 ·show pv (List.replicate a.length (0:Int)) a.length*b+0*_=_
  rw[lX];simp
 rintro⟨r,x,out⟩ ⟨j,hx,hj,hlen,hw,hz,hr0,hr1,hpv⟩
 simp only at hx hj hlen hw hz hr0 hr1 hpv
 subst hx
 have hj1:((j:Int)-1).toNat=j-1:=om
 refine condT (λhc=>⟨⟨by omega,by omega⟩,?_⟩) (λhc=>?_)
 ·obtain⟨i,rfl⟩:∃i,j=i+1:=⟨j-1,by omega⟩
  have ei:((i+1:Nat):Int)-1=(i:Int):=om
  have h0:=ha i
  have e32:(2:Int)^Int.toNat 32=4294967296:=rfl
  rw[ei,eu,e32,wrap_u64_id om om,wrap_u64_id om om,pm 32 h0.1 h0.2 om (by show _ % 4294967296=0;omega) om]
  refine fH ⟨by omega,⟨by omega,by omega⟩,by omega,by unfold rng;omega,?_,by dsimp only;omega⟩
  generalize hv:r*4294967296+a.getD i 0=v
  have hv0:0<=v:=om
  rw[Int.tdiv_eq_ediv_of_nonneg hv0,Int.tmod_eq_emod_of_nonneg hv0,d4]
  have hq0:0<=v / b:=Int.ediv_nonneg hv0 om
  have hq1:v / b<4294967296:=by
   rw[Int.ediv_lt_iff_lt_mul hb0,<-hv]
   have:r*4294967296<=(b-1)*4294967296:=Int.mul_le_mul_of_nonneg_right om om
   omega
  rw[wrap_u64_id hq0 om,wrap_u32]
  have hqm:v / b % 4294967296=v / b:=om
  rw[hqm]
  refine⟨i,rfl,by omega,by simp[hlen],hw.set _ hq0 hq1,λk hk=>?_,Int.emod_nonneg _ om,Int.emod_lt_of_pos _ hb0,?_⟩
  ·show(out.set i _).getD k 0=0
   rw[bL om];exact hz k om
  ·show pv (out.set i (v / b)) a.length*b+v % b*_=_
   rw[eI om a.length om,hz i om,Int.sub_zero,Int.add_mul]
   rw[pv,Int.pow_succ] at hpv
   have d0:v=b*(v / b)+v % b:=(Int.mul_ediv_add_emod v b).symm
   have s1:v / b*4294967296^i*b+v % b*4294967296^i=v*4294967296^i:=by
    rw[Int.mul_right_comm,<-Int.add_mul,Int.mul_comm (v / b),<-d0]
   have s2:v*4294967296^i=r*(4294967296^i*4294967296)+a.getD i 0*4294967296^i:=by
    rw[<-hv,Int.add_mul,Int.mul_assoc,Int.mul_comm 4294967296]
   omega
 ·obtain rfl:j=0:=om
  refine bE hw (by unfold SM;omega) ?_
  have a1:=bG hw
  have a2:=bG ha
  rw[hlen] at a1
  simp only[pv,Int.pow_zero,Int.mul_one,Int.sub_zero] at hpv
  rw[<-a1,<-a2] at hpv
  obtain⟨c,rfl⟩:∃c:Nat,b=c:=⟨b.toNat,by omega⟩
  rw[Int.toNat_natCast] at h
  have hq:val a / c=val out:=by
   have:val a=c*val out+r.toNat:=by
    have:((val a:Nat):Int)=((c*val out+r.toNat:Nat):Int):=by
     rw[Int.natCast_add,Int.natCast_mul,Int.mul_comm];omega
    omega
   rw[this,Nat.add_comm,Nat.add_mul_div_left _ _ om,Nat.div_eq_of_lt om];omega
  have hm:val a % c=r.toNat:=by
   have:val a=c*val out+r.toNat:=by
    have:((val a:Nat):Int)=((c*val out+r.toNat:Nat):Int):=by
     rw[Int.natCast_add,Int.natCast_mul,Int.mul_comm];omega
    omega
   rw[this,Nat.add_comm,Nat.add_mul_mod_self_left,Nat.mod_eq_of_lt om]
  rw[hq,hm] at h
  rw[wrap_u32]
  have e:r % 4294967296=((r.toNat:Nat):Int):=om
  rw[e]
  exact h
end Go.Gg
namespace Go.Gg
theorem mJ {n:Int} {Q:List Int->Prop} (h1:n<=9223372036854775807) (h:Q (lim n.toNat)):ip n Q:=by
 refine condT (λhc=>?_) (λhc=>?_)
 ·have:n.toNat=0:=om
  rw[this,cB] at h;exact h
 ·have e32:(2:Int)^Int.toNat 32=4294967296:=rfl
  rw[e32,wrap_u32,wrap_u32]
  have hw:Words [n % 4294967296,n / 4294967296 % 4294967296]:=(Words.nil.cons om om).cons om om
  refine bE hw (by simp[SM]) ?_
  have hv:val [n % 4294967296,n / 4294967296 % 4294967296]=n.toNat:=by
   rw[gK hw,gK hw.tail,jN];omega
  rw[hv];exact h
theorem u0 {a:List Int} (ha:Words a) {i:Nat} (hz:∀k,i<k->k<a.length->a.getD k 0=0) (hi:i<a.length) (hn:a.getD i 0≠0):(bv (val a):Int)=32*i+bv (a.getD i 0).toNat:=by
 have h0:=ha i
 have a1:=bG ha
 rw[jV (j:=i+1) a.length hi (λk h1 h2=>hz k om h2),pv] at a1
 obtain⟨b1,b2⟩:=bc ha i
 obtain⟨x,hx⟩:∃x:Nat,a.getD i 0=x:=⟨(a.getD i 0).toNat,by omega⟩
 rw[hx] at a1 hn h0 ⊢
 rw[Int.toNat_natCast]
 have hx0:x≠0:=om
 have c1:=lk (n:=x)
 have c2:=j0 hx0
 have hb:bv x≠0:=by unfold bv;rw[if_neg hx0];omega
 have ew:((4294967296^i:Nat):Int)=(4294967296:Int)^i:=by simp
 have e1:val a=(pv a i).toNat+x*4294967296^i:=by
  have:(val a:Int)=(((pv a i).toNat+x*4294967296^i:Nat):Int):=by
   rw[a1,Int.natCast_add,Int.natCast_mul,ew];omega
  omega
 have hlt:(pv a i).toNat<4294967296^i:=om
 have hpw:(4294967296:Nat)^i=2^(32*i):=by rw[Nat.pow_mul]
 have:bv (val a)=32*i+bv x:=by
  refine nE ?_ (λ_=>?_)
  ·rw[e1,Nat.pow_add,<-hpw]
   have:(x+1)*4294967296^i<=2^bv x*4294967296^i:=Nat.mul_le_mul_right _ c1
   rw[Nat.add_mul,Nat.mul_comm (2^bv x)] at this
   omega
  ·have e:32*i+bv x-1=32*i+(bv x-1):=om
   rw[e1,e,Nat.pow_add,<-hpw]
   have:2^(bv x-1)*4294967296^i<=x*4294967296^i:=Nat.mul_le_mul_right _ c2
   rw[Nat.mul_comm (2^(bv x-1))] at this
   omega
 omega
theorem pu {a:List Int} {Q:Int->Prop} (ha:Words a) (la:SM a) (h:Q (bv (val a))):iR a Q:=by
 unfold SM at la
 refine⟨by unfold rng;omega,λx=>∃j:Nat,x=(j:Int)-1/\j<=a.length/\∀k,j<=k->k<a.length->a.getD k 0=0,λx=>(x+1).toNat,⟨a.length,rfl,by omega,λk h1 h2=>om⟩,?_⟩
 rintro _ ⟨j,rfl,hj,hz⟩
 refine condT (λhc=>⟨⟨by omega,by omega⟩,?_⟩) (λhc=>?_)
 ·obtain⟨i,rfl⟩:∃i,j=i+1:=⟨j-1,by omega⟩
  have ei:((i+1:Nat):Int)-1=(i:Int):=om
  rw[ei,eu]
  have h0:=ha i
  refine dz (λhn=>⟨by unfold rng;omega,⟨by omega,by omega⟩,?_⟩) (λhe=>⟨by unfold rng;omega,⟨i,rfl,by omega,λk h1 h2=>?_⟩,by dsimp only;omega⟩)
  ·have hb:=u0 ha (λk h1 h2=>hz k om h2) om hn
   obtain⟨x,hx⟩:∃x:Nat,a.getD i 0=x:=⟨(a.getD i 0).toNat,by omega⟩
   rw[hx] at hb ⊢
   rw[Int.toNat_natCast] at hb
   have h32:=lm (x:=x) om
   refine uc om ⟨by unfold rng;omega,?_⟩
   rw[<-hb];exact h
  ·by_cases hk:k=i
   ·subst hk;exact he
   ·exact hz k om h2
 ·obtain rfl:j=0:=om
  have:val a=0:=by
   have a1:=bG ha
   rw[jV (j:=0) a.length om (λk h1 h2=>hz k h1 h2)] at a1
   simp only[pv] at a1;omega
  rw[this,qJ] at h
  exact h
theorem eq {l:List Int} {j i:Nat}:(l.drop j).getD i 0=l.getD (j+i) 0:=by
 rw[List.getD_eq_getElem?_getD,List.getD_eq_getElem?_getD,List.getElem?_drop]
theorem nV {l:List Int} {o i:Nat} {x:Int} (h:o+i<l.length):pv ((l.set (o+i) x).drop o) (i+1)=pv (l.drop o) i+x*4294967296^i:=by
 rw[pv,eq,gH h]
 congr 1
 exact gP i (λk hk=>by rw[eq,eq,bL om])
theorem pq {u v:List Int} {o n:Nat} {g:Int} {Q:List Int->Bool->Prop} (hu:Words u) (hv:Words v) (lu:SM u) (ho:o+n<=u.length) (hn:v.length<n) (hg0:0<=g) (hg1:g<4294967296)
  (h:∀(w:List Int) (b:Int),Words w->w.length=u.length->(∀k,k<o\/o+n<=k->w.getD k 0=u.getD k 0)->(b=0\/b=1)->pv (w.drop o) n=pv (u.drop o) n-g*val v+b*4294967296^n->Q w (b == 1)) :
  iP u o n v g Q:=by
 unfold SM at lu
 refine⟨λy=>∃i:Nat,y.2.2.1=i/\i<=n/\y.2.2.2.length=u.length/\Words y.2.2.2/\(∀k,k<o\/o+i<=k->y.2.2.2.getD k 0=u.getD k 0)/\0<=y.1/\y.1<4294967296/\0<=y.2.1/\y.2.1<=1/\0<=g*pv v i-y.1*4294967296^i/\g*pv v i-y.1*4294967296^i<4294967296^i/\
   pv (y.2.2.2.drop o) i=pv (u.drop o) i-(g*pv v i-y.1*4294967296^i)+y.2.1*4294967296^i,λy=>n-y.2.2.1.toNat,
  ⟨0,rfl,by omega,rfl,hu,λ_ _=>rfl,Int.le_refl 0,by show(0:Int)<4294967296;omega,Int.le_refl 0,by show(0:Int)<=1;omega,by simp[pv],by simp[pv],by simp[pv]⟩,?_⟩
 rintro⟨c,b,x,w⟩ ⟨i,hx,hi,hlen,hw,hz,hc0,hc1,hb0,hb1,hl0,hl1,hpv⟩
 simp only at hx hi hlen hw hz hc0 hc1 hb0 hb1 hl0 hl1 hpv
 subst hx
 have hvi:=hv i
 have hwi:=hw (o+i)
 have eoi:(o:Int)+(i:Int)=((o+i:Nat):Int):=om
 refine condT (λhlt=>cS hv ?_) (λhge=>?_)
 ·have hm0:0<=g*v.getD i 0:=Int.mul_nonneg hg0 hvi.1
  have hm1:g*v.getD i 0<=4294967295*4294967295:=Int.mul_le_mul om om hvi.1 om
  rw[wrap_u64_id hm0 om,wrap_u64_id om om]
  refine fH ⟨⟨by omega,hlt⟩,by omega,?_⟩
  rw[eoi,eu]
  generalize hc':c+g*v.getD i 0=d at *
  rw[wrap_u64_id hwi.1 om,wrap_u32,wrap_u64_id (m:=d % 4294967296) om om]
  obtain⟨q1,q2,q3⟩:=oL (w.getD (o+i) 0) (d % 4294967296) b hwi om ⟨hb0,hb1⟩
  refine fH ⟨⟨by omega,hlt⟩,by omega,by unfold rng;omega,?_,by dsimp only;omega⟩
  generalize IntKind.u64.wrap (IntKind.u64.wrap (w.getD (o+i) 0-d % 4294967296)-b)=e at *
  have e63:e / 2^Int.toNat 63=e / 9223372036854775808:=rfl
  have e32:d / 2^Int.toNat 32=d / 4294967296:=rfl
  rw[e63,e32,d4,wrap_u32]
  have hP:=dv i
  have p1:pv (u.drop o) (i+1)=pv (u.drop o) i+w.getD (o+i) 0*4294967296^i:=by rw[pv,eq,hz (o+i) om]
  have p2:g*pv v (i+1)=g*pv v i+g*v.getD i 0*4294967296^i:=by rw[pv,Int.mul_add,Int.mul_assoc]
  have p3:=Int.pow_succ (4294967296:Int) i
  have p0:=nV (l:=w) (o:=o) (i:=i) (x:=e % 4294967296) om
  generalize (4294967296:Int)^i=P at *
  have s1:=i7 d P
  have s3:d*P=c*P+g*v.getD i 0*P:=by rw[<-hc',Int.add_mul]
  have s5:d % 4294967296*P<=4294967295*P:=Int.mul_le_mul_of_nonneg_right om om
  have s6:0<=d % 4294967296*P:=Int.mul_nonneg om om
  refine⟨i+1,rfl,by omega,by simp[hlen],hw.set _ om om,λk hk=>?_,by show 0<=d / 4294967296;omega,by show d / 4294967296<4294967296;omega,q2,q3,?_,?_,?_⟩
  ·show(w.set (o+i) _).getD k 0=_
   rw[bL om];exact hz k om
  ·show 0<=g*pv v (i+1)-d / 4294967296*4294967296^(i+1)
   rw[p2,p3];omega
  ·show g*pv v (i+1)-d / 4294967296*4294967296^(i+1)<4294967296^(i+1)
   rw[p2,p3];omega
  ·show pv ((w.set (o+i) (e % 4294967296)).drop o) (i+1)=pv (u.drop o) (i+1)-(g*pv v (i+1)-d / 4294967296*4294967296^(i+1))+e / 9223372036854775808*4294967296^(i+1)
   rw[p0,hpv,p1,p2,p3]
   have s0:e % 4294967296=w.getD (o+i) 0-d % 4294967296-b+4294967296*(e / 9223372036854775808):=om
   rw[s0]
   generalize e / 9223372036854775808=b' at *
   have s4:(w.getD (o+i) 0-d % 4294967296-b+4294967296*b')*P=w.getD (o+i) 0*P-d % 4294967296*P-b*P+b'*(P*4294967296):=by
    rw[Int.add_mul,Int.sub_mul,Int.sub_mul,Int.mul_comm 4294967296 b',Int.mul_assoc b',Int.mul_comm 4294967296 P]
   rw[s4]
   generalize d / 4294967296=d' at *
   generalize d % 4294967296=d'' at *
   clear q1 q2 q3 s0 s4 s5 s6 hpv
   omega
 ·obtain rfl:i=n:=om
  refine h w b hw hlen hz om ?_
  have a1:=cX hv (i:=i) om
  have hc:c=0:=by
   have hv1:=cX hv (i:=i-1) om
   have hb':=(bc hv (i-1)).2
   have hw0:=bc hw 0
   obtain⟨m,rfl⟩:∃m,i=m+1:=⟨i-1,by omega⟩
   rw[Nat.add_sub_cancel] at hv1 hb'
   have hP:=dv m
   rw[Int.pow_succ] at hpv
   have hgv:g*pv v (m+1)<=4294967295*(4294967296^m-1):=by
    rw[<-a1,hv1]
    exact Int.mul_le_mul om om (bc hv m).1 om
   rw[Int.pow_succ] at hl0
   generalize (4294967296:Int)^m=P at *
   rcases Int.lt_or_le 0 c with hc | hc
   ·have:1*(P*4294967296)<=c*(P*4294967296):=Int.mul_le_mul_of_nonneg_right om om
    omega
   ·omega
  subst hc
  rw[a1]
  rw[hpv];omega
theorem pr {u v:List Int} {o n:Nat} {Q:List Int->Prop} (hu:Words u) (hv:Words v) (lu:SM u) (ho:o+n<=u.length) (hn:v.length<=n)
  (h:∀(w:List Int) (c:Int),Words w->w.length=u.length->(∀k,k<o\/o+n<=k->w.getD k 0=u.getD k 0)->(c=0\/c=1)->pv (w.drop o) n+c*4294967296^n=pv (u.drop o) n+val v->Q w) :
  iQ u o n v Q:=by
 unfold SM at lu
 refine⟨λy=>∃i:Nat,y.2.1=i/\i<=n/\y.2.2.length=u.length/\Words y.2.2/\(∀k,k<o\/o+i<=k->y.2.2.getD k 0=u.getD k 0)/\0<=y.1/\y.1<=1/\
   pv (y.2.2.drop o) i+y.1*4294967296^i=pv (u.drop o) i+pv v i,λy=>n-y.2.1.toNat,
  ⟨0,rfl,by omega,rfl,hu,λ_ _=>rfl,Int.le_refl 0,by show(0:Int)<=1;omega,by simp[pv]⟩,?_⟩
 rintro⟨c,x,w⟩ ⟨i,hx,hi,hlen,hw,hz,hc0,hc1,hpv⟩
 simp only at hx hi hlen hw hz hc0 hc1 hpv
 subst hx
 have hvi:=hv i
 have hwi:=hw (o+i)
 have eoi:(o:Int)+(i:Int)=((o+i:Nat):Int):=om
 refine condT (λhlt=>⟨⟨by omega,hlt⟩,by omega,v.getD i 0,cS hv rfl,⟨by omega,hlt⟩,by omega,?_⟩) (λhge=>?_)
 ·rw[eoi,eu,wrap_u64_id hwi.1 om,wrap_u64_id (m:=w.getD (o+i) 0+v.getD i 0) om om,wrap_u64_id om om]
  refine fH ⟨by unfold rng;omega,?_,by dsimp only;omega⟩
  have e32:∀d:Int,d / 2^Int.toNat 32=d / 4294967296:=λ_=>rfl
  rw[e32,d4,wrap_u32]
  generalize hd:c+(w.getD (o+i) 0+v.getD i 0)=d
  refine⟨i+1,rfl,by omega,by simp[hlen],hw.set _ om om,λk hk=>?_,by show 0<=d / 4294967296;omega,by show d / 4294967296<=1;omega,?_⟩
  ·show(w.set (o+i) _).getD k 0=_
   rw[bL om];exact hz k om
  ·show pv ((w.set (o+i) (d % 4294967296)).drop o) (i+1)+d / 4294967296*4294967296^(i+1)=pv (u.drop o) (i+1)+pv v (i+1)
   have p0:=nV (l:=w) (o:=o) (i:=i) (x:=d % 4294967296) om
   have p1:pv (u.drop o) (i+1)=pv (u.drop o) i+w.getD (o+i) 0*4294967296^i:=by rw[pv,eq,hz (o+i) om]
   have p2:pv v (i+1)=pv v i+v.getD i 0*4294967296^i:=by rw[pv]
   rw[p0,p1,p2,Int.pow_succ]
   have s1:=i7 d (4294967296^i)
   have s3:d*4294967296^i=c*4294967296^i+(w.getD (o+i) 0*4294967296^i+v.getD i 0*4294967296^i):=by rw[<-hd,Int.add_mul,Int.add_mul]
   omega
 ·obtain rfl:i=n:=om
  have a1:=cX hv (i:=i) om
  exact h w c hw hlen hz om (by rw[a1];exact hpv)
end Go.Gg
namespace Go.Gg
theorem gp {a b c:Nat} (h:a+b=c):(2:Int)^a*2^b=2^c:=by rw[<-Int.pow_add,h]
theorem sH {V P B top nx vl head th pl g:Int} (hV:V=(top*4294967296+nx)*B+vl) (hvl:0<=vl) (hP:P=(head*4294967296+th)*B+pl) (hpl:pl<B) (hB:0<B) (hg:0<=g)
  (h:head*4294967296+th<g*(top*4294967296+nx)):P<g*V:=by
 have h1:(head*4294967296+th+1)*B<=g*(top*4294967296+nx)*B:=Int.mul_le_mul_of_nonneg_right om om
 have h2:0<=g*vl:=Int.mul_nonneg hg hvl
 rw[hV,Int.mul_add,<-Int.mul_assoc]
 rw[Int.add_mul] at h1
 omega
theorem sI {V P B top nx vl head th pl g:Int} (hV:V=(top*4294967296+nx)*B+vl) (hvl0:0<=vl) (hvl:vl<B) (hP:P=(head*4294967296+th)*B+pl) (hpl:0<=pl) (hg0:0<=g) (hg:g<4294967296) (hVB:4294967296*B<=V)
  (h:g*(top*4294967296+nx)<=head*4294967296+th):(g-1)*V<=P:=by
 have h1:g*(top*4294967296+nx)*B<=(head*4294967296+th)*B:=Int.mul_le_mul_of_nonneg_right h om
 have h2:g*vl<=4294967296*B:=Int.mul_le_mul om om hvl0 om
 rw[Int.sub_mul,hV,Int.mul_add,<-Int.mul_assoc]
 rw[<-hV]
 omega
theorem jC {l:List Int} {i:Nat}:∀n,pv l (i+n)=pv l i+pv (l.drop i) n*4294967296^i
 | 0=>by simp[pv]
 | n+1=>by
  rw[<-Nat.add_assoc,pv,jC n,pv,eq,Int.add_mul,Int.pow_add,Int.mul_assoc (l.getD (i+n) 0),Int.mul_comm (4294967296^n)]
  omega
theorem q_ {l m:List Int} {i n:Nat} (h:∀k,k<i\/i+n<=k->l.getD k 0=m.getD k 0):∀M,i+n<=M->pv l M-pv m M=(pv (l.drop i) n-pv (m.drop i) n)*4294967296^i
 | 0,hM=>by
  have h1:i=0:=om
  have h2:n=0:=om
  subst h1 h2
  simp[pv]
 | M+1,hM=>by
  by_cases he:i+n=M+1
  ·rw[<-he,jC,jC,gP i (λk hk=>h k (.inl hk)),Int.sub_mul];omega
  ·rw[pv,pv,h M (.inr om)]
   have:=q_ h M om
   omega
theorem rj {n:Nat} (h:n≠0):(lim n).getD ((lim n).length-1) 0≠0:=by
 induction n using Nat.strongRecOn with
 | _ n ih=>
  rw[d7 om]
  simp only[List.length_cons,Nat.add_sub_cancel]
  by_cases h0:n / 4294967296=0
  ·rw[h0,cB];simp;omega
  ·have h1:=ih _ (Nat.div_lt_self om om) h0
   have h2:(lim (n / 4294967296)).length≠0:=by rw[d7 om];simp
   obtain⟨k,hk⟩:∃k,(lim (n / 4294967296)).length=k+1:=⟨_,(Nat.succ_pred_eq_of_ne_zero h2).symm⟩
   rw[hk] at h1 ⊢
   simpa using h1
theorem tC {top nx hd1 hd2 th V P B vl pl:Int} {next3:Int->Prop} {G1 G2 G3:Prop} (hG1:G1) (hG2:G2) (hG3:G3) (htop0:2147483648<=top) (htop:top<4294967296) (hnx:0<=nx/\nx<4294967296) (h1:0<=hd1/\hd1<=top) (h2:0<=hd2/\hd2<4294967296) (h3:0<=th/\th<4294967296)
  (hV:V=(top*4294967296+nx)*B+vl) (hvl:0<=vl/\vl<B) (hP:P=((hd1*4294967296+hd2)*4294967296+th)*B+pl) (hpl:0<=pl/\pl<B) (hB:0<B) (hPV:P<V*4294967296)
  (hn:∀g,0<=g->g<4294967296->P<(g+1)*V->(g-1)*V<=P->next3 g) :
  bd (σ:=Int×Int) (IntKind.u64.wrap (Int.tdiv (hd1*4294967296+hd2) top),Int.tmod (hd1*4294967296+hd2) top) λ⟨guess2,rest⟩ next4=>
   cC (α:=Unit) (λnext5=>aj (decide (4294967296<=guess2)) (next5 ()) (G1/\G2/\G3/\aj (decide (bits .or .u64 (IntKind.u64.wrap (rest*4294967296)) th<IntKind.u64.wrap (guess2*nx))) (next5 ()) (next3 guess2)))
    λ_=>iE (IntKind.u64.wrap (rest+top)) λrest1=>aj (decide (4294967296<=rest1)) (next3 (IntKind.u64.wrap (guess2-1))) (next4 (IntKind.u64.wrap (guess2-1),rest1)):=by
 have hhd0:0<=hd1*4294967296+hd2:=om
 have hVB:4294967296*B<=V:=by
  have:4294967296*B<=(top*4294967296+nx)*B:=Int.mul_le_mul_of_nonneg_right om om
  omega
 generalize hhd:hd1*4294967296+hd2=head at *
 have hhead:head<=top*4294967296+4294967295:=om
 have hq0:0<=head / top:=Int.ediv_nonneg hhd0 om
 have hr0:0<=head % top:=Int.emod_nonneg _ om
 have hr1:head % top<top:=Int.emod_lt_of_pos _ om
 have hde:head=top*(head / top)+head % top:=(Int.mul_ediv_add_emod head top).symm
 have hqu:head / top<4294967298:=by
  rw[Int.ediv_lt_iff_lt_mul om];omega
 rw[Int.tdiv_eq_ediv_of_nonneg hhd0,Int.tmod_eq_emod_of_nonneg hhd0,wrap_u64_id hq0 om]
 refine⟨λy=>0<=y.1/\y.1<4294967298/\0<=y.2/\y.2<4294967296/\head=y.1*top+y.2/\P<(y.1+1)*V,λy=>y.1.toNat,⟨hq0,hqu,hr0,by show head % top<_;omega,by show head=head / top*top+head % top;rw[Int.mul_comm];exact hde,?_⟩,?_⟩
 ·show P<(head / top+1)*V
  refine sH hV hvl.1 hP hpl.2 hB om ?_
  have a1:(head / top+1)*top=top*(head / top)+top:=by rw[Int.add_mul,Int.mul_comm];omega
  have a2:(head / top+1)*(top*4294967296+nx)=(head / top+1)*top*4294967296+(head / top+1)*nx:=by rw[Int.mul_add,Int.mul_assoc]
  have a3:0<=(head / top+1)*nx:=Int.mul_nonneg om hnx.1
  omega
 rintro⟨g,r⟩ ⟨hg0,hg1,hr0,hr1,hh,hU⟩
 simp only at hg0 hg1 hr0 hr1 hh hU
 have hexp:g*(top*4294967296+nx)=(g*top)*4294967296+g*nx:=by rw[Int.mul_add,Int.mul_assoc]
 refine⟨λ_=>P<g*V,condT (λhc=>?_) (λhc=>⟨hG1,hG2,hG3,?_⟩),λ_ hlt=>?_⟩
 ·have:V*4294967296<=g*V:=by rw[Int.mul_comm V];exact Int.mul_le_mul_of_nonneg_right hc om
  omega
 ·have hgn0:0<=g*nx:=Int.mul_nonneg hg0 hnx.1
  have hgn1:g*nx<=4294967295*4294967295:=Int.mul_le_mul om om hnx.1 om
  rw[wrap_u64_id (m:=r*4294967296) om om,wrap_u64_id hgn0 om,pm 32 h3.1 h3.2 om (by show _ % 4294967296=0;omega) om]
  refine condT (λhgt=>?_) (λhle=>?_)
  ·exact sH hV hvl.1 hP hpl.2 hB hg0 om
  ·exact hn g hg0 om hU (sI hV hvl.1 hvl.2 hP hpl.1 hg0 om hVB om)
 ·have hg1':1<=g:=by
   rcases Int.lt_or_le g 1 with h | h
   ·have:g=0:=om
    subst this
    have hP0:0<=P:=by
     rw[hP]
     have:0<=(head*4294967296+th)*B:=Int.mul_nonneg om om
     omega
    simp at hlt;omega
   ·exact h
  rw[wrap_u64_id (m:=r+top) om om,wrap_u64_id (m:=g-1) om om]
  have hsub:(g-1)*top=g*top-top:=by rw[Int.sub_mul];omega
  have hexp2:(g-1)*(top*4294967296+nx)=((g-1)*top)*4294967296+(g-1)*nx:=by rw[Int.mul_add,Int.mul_assoc]
  refine fH (condT (λhc=>?_) (λhc=>⟨⟨by show 0<=g-1;omega,by show g-1<_;omega,by show 0<=r+top;omega,by show r+top<_;omega,by show head=(g-1)*top+(r+top);omega,by show P<(g-1+1)*V;rw[Int.sub_add_cancel];exact hlt⟩,by show(g-1).toNat<g.toNat;omega⟩))
  have hgW:g-1<4294967296:=by
   rcases Int.lt_or_le (g-1) 4294967296 with h | h
   ·exact h
   ·have:4294967296*top<=(g-1)*top:=Int.mul_le_mul_of_nonneg_right h om
    omega
  have hgn1:(g-1)*nx<=4294967295*4294967295:=Int.mul_le_mul om om hnx.1 om
  refine hn (g-1) om hgW (by rw[Int.sub_add_cancel];exact hlt) (sI hV hvl.1 hvl.2 hP hpl.1 om hgW hVB om)
set_option maxHeartbeats 2000000 in
theorem js {a b:List Int} {Q:List Int->List Int->Option Int->Prop} (ha:Words a) (hb:Words b) (la:a.length<=1099511627774) (lb:b.length<=1099511627774)
  (h0:val b=0->Q [] [] (some 8)) (h:val b≠0->Q (lim (val a / val b)) (lim (val a % val b)) none):fu a b Q:=by
 refine bE ha (by unfold SM;omega) (bE hb (by unfold SM;omega) ?_)
 have b1:=cK ha
 have b2:=cK hb
 have w1:=aq (val a)
 have w2:=aq (val b)
 have v1:=aB (val a)
 have v2:=aB (val b)
 refine ce (λhc=>?_) (λhc=>?_)
 ·have:(lim (val b)).length=0:=om
  have:lim (val b)=[]:=List.eq_nil_of_length_eq_zero this
  rw[this,jN] at v2
  exact h0 v2.symm
 have hB:val b≠0:=by intro hh;rw[hh,cB] at hc;exact hc rfl
 replace h:=h hB
 clear h0
 refine eo w1 w2 (by unfold SM;omega) (by unfold SM;omega) ?_
 rw[v1,v2]
 refine condT (λhlt=>?_) (λhge=>ce (λh1=>?_) (λh1=>?_))
 ·have:=iv.1 hlt
  rw[Nat.div_eq_of_lt this,Nat.mod_eq_of_lt this,cB] at h
  exact h
 ·
  have hl1:(lim (val b)).length=1:=om
  have hw0:=w2 0
  have hbv:(val b:Int)=(lim (val b)).getD 0 0:=by
   have:=bG w2
   rw[v2,hl1] at this
   simpa[pv] using this
  refine⟨⟨by omega,by omega⟩,?_⟩
  have e0:at' (lim (val b)) 0=(val b:Int):=by rw[hbv];rfl
  rw[e0]
  have hm:val a % val b<val b:=Nat.mod_lt _ om
  refine od w1 (by unfold SM;omega) om om ?_
  rw[v1,Int.toNat_natCast,gM (by unfold rng;omega)]
  refine mJ om ?_
  rw[Int.toNat_natCast]
  exact h
 obtain⟨m,hm⟩:∃m,(lim (val b)).length=m+2:=⟨(lim (val b)).length-2,by omega⟩
 have hge':val b<=val a:=by
  rcases Nat.lt_or_ge (val a) (val b) with hh | hh
  ·exact absurd (iv.2 hh) hge
  ·exact hh
 have hlen:m+2<=(lim (val a)).length:=by rw[<-hm];exact b8 hge'
 generalize hA:val a=A at *
 generalize hBv:val b=B at *
 have htop:=rj hB
 have hbd:(val (lim B):Int)=_:=bG w2
 rw[v2] at hbd
 have hAp:(A:Int)<4294967296^(lim A).length:=by
  have:=(bc w1 (lim A).length).2
  have e:=bG w1
  rw[v1] at e;omega
 generalize hla:lim A=al at *
 generalize hlb:lim B=bl at *
 rw[hm] at htop hbd
 have e21:m+2-1=m+1:=om
 rw[e21] at htop
 have hwt:=w2 (m+1)
 have hml:(bl.length:Int)-1=((m+1:Nat):Int):=om
 rw[hml]
 obtain⟨tp,htp⟩:∃x:Nat,bl.getD (m+1) 0=x:=⟨(bl.getD (m+1) 0).toNat,by omega⟩
 refine⟨by unfold rng;omega,⟨by omega,by omega⟩,?_⟩
 rw[eu,htp]
 rw[htp] at htop hwt
 have htp0:tp≠0:=om
 have c1:=lk (n:=tp)
 have c2:=j0 htp0
 have c3:=lm (x:=tp) om
 have c4:bv tp≠0:=by unfold bv;rw[if_neg htp0];omega
 refine yp om ?_
 obtain⟨s,hs⟩:∃s,32-bv tp=s:=⟨_,rfl⟩
 rw[hs]
 have hs31:s<=31:=om
 refine kE w2 om om (λr4 hr4 hr4l hr4v=>?_)
 rw[hm] at hr4l
 rw[v2] at hr4v
 refine⟨⟨by omega,by omega,by omega⟩,fH ?_⟩
 have hvl:(f8 r4 0 (bl.length:Int))=r4.take (m+2):=by
  show(r4.drop 0).take (((bl.length:Nat):Int).toNat-0)=_
  rw[Int.toNat_natCast,hm];rfl
 rw[hvl]
 have hvlen:(r4.take (m+2)).length=m+2:=by rw[List.length_take,hr4l];omega
 have hPm:=dv m
 have ew:(4294967296:Int)^(m+2)=4294967296^m*4294967296*4294967296:=by rw[Int.pow_succ,Int.pow_succ]
 have ew1:(4294967296:Int)^(m+1)=4294967296^m*4294967296:=Int.pow_succ ..
 have hbd2:(B:Int)=pv bl m+bl.getD m 0*4294967296^m+tp*(4294967296^m*4294967296):=by rw[hbd,pv,pv,htp,ew1]
 have hbm:=bc w2 m
 have hbm1:=w2 m
 have hlow:bl.getD m 0*4294967296^m<=4294967295*4294967296^m:=Int.mul_le_mul_of_nonneg_right om om
 have hlow0:0<=bl.getD m 0*4294967296^m:=Int.mul_nonneg hbm1.1 om
 have hps:=dM s
 have hts:(tp:Int)*2^s<4294967296/\2147483648<=(tp:Int)*2^s:=by
  have e1:(2:Int)^(bv tp)*2^s=4294967296:=gp (c:=32) om
  have e2:(2:Int)^(bv tp-1)*2^s=2147483648:=gp (c:=31) om
  have f1:(tp:Int)+1<=2^(bv tp):=by exact_mod_cast c1
  have f2:(2:Int)^(bv tp-1)<=tp:=by exact_mod_cast c2
  have g1:((tp:Int)+1)*2^s<=2^(bv tp)*2^s:=Int.mul_le_mul_of_nonneg_right f1 om
  have g2:(2:Int)^(bv tp-1)*2^s<=tp*2^s:=Int.mul_le_mul_of_nonneg_right f2 om
  rw[Int.add_mul] at g1
  omega
 have hVval:((val r4:Nat):Int)=(B:Int)*2^s:=by rw[hr4v];simp
 have hr4p:=bG hr4
 rw[hr4l] at hr4p
 have hVlt:(val r4:Int)<4294967296^(m+2):=by
  have k1:(B:Int)+1<=(tp+1)*(4294967296^m*4294967296):=by rw[Int.add_mul];omega
  have k2:((B:Int)+1)*2^s<=((tp+1)*(4294967296^m*4294967296))*2^s:=Int.mul_le_mul_of_nonneg_right k1 om
  have k3:(((tp:Int)+1)*2^s)<=4294967296:=by
   have f1:(tp:Int)+1<=2^(bv tp):=by exact_mod_cast c1
   have e1:(2:Int)^(bv tp)*2^s=4294967296:=gp (c:=32) om
   have g1:((tp:Int)+1)*2^s<=2^(bv tp)*2^s:=Int.mul_le_mul_of_nonneg_right f1 om
   omega
  have k4:(((tp:Int)+1)*2^s)*(4294967296^m*4294967296)<=4294967296*(4294967296^m*4294967296):=Int.mul_le_mul_of_nonneg_right k3 om
  rw[Int.mul_right_comm] at k2
  rw[Int.add_mul] at k2
  rw[hVval,ew]
  omega
 have hVge:2147483648*(4294967296^m*4294967296)<=(val r4:Int):=by
  have k1:(tp:Int)*(4294967296^m*4294967296)<=B:=om
  have k2:(tp:Int)*(4294967296^m*4294967296)*2^s<=B*2^s:=Int.mul_le_mul_of_nonneg_right k1 om
  have k3:2147483648*(4294967296^m*4294967296)<=(tp:Int)*2^s*(4294967296^m*4294967296):=Int.mul_le_mul_of_nonneg_right hts.2 om
  rw[Int.mul_right_comm] at k2
  omega
 have hVp:(val r4:Int)=pv (r4.take (m+2)) (m+2):=by
  rw[hr4p] at hVlt ⊢
  rw[tZ (Nat.le_refl _)]
  exact mC hr4 om hVlt
 have hwv:Words (r4.take (m+2)):=hr4.take _
 have hvv:val (r4.take (m+2))=val r4:=by
  have:=bG hwv
  rw[hvlen,<-hVp] at this;omega
 generalize hv:r4.take (m+2)=v at *
 generalize hVV:val r4=V at *
 clear hr4 hr4l hr4p hvl
 refine kE w1 om om (λu hu hul huv=>?_)
 rw[v1] at huv
 have hvl1:(v.length:Int)-1=((m+1:Nat):Int):=om
 have hvl2:(v.length:Int)-2=(m:Int):=om
 obtain⟨K,hK⟩:∃K,al.length=K+(m+2):=⟨al.length-(m+2),by omega⟩
 have hkl:(u.length:Int)-(v.length:Int)=((K+1:Nat):Int):=om
 rw[hvl1,hvl2,hkl]
 refine⟨by unfold rng;omega,⟨by omega,by omega⟩,by unfold rng;omega,⟨by omega,by omega⟩,by unfold rng;omega,mK om om,by unfold rng;omega,fH ?_⟩
 rw[Int.toNat_natCast]
 have hU:(val u:Int)<V*4294967296^(K+1):=by
  have k0:((val u:Nat):Int)=(A:Int)*2^s:=by rw[huv];simp
  have k1:(2:Int)^s<=2147483648:=by
   have:(2:Int)^s*2^(31-s)=2147483648:=gp (c:=31) om
   have h2:=dM (31-s)
   have:(2:Int)^s*1<=2^s*2^(31-s):=Int.mul_le_mul_of_nonneg_left om om
   omega
  have k2:(A:Int)*2^s<4294967296^al.length*2^s:=Int.mul_lt_mul_of_pos_right hAp hps
  have k3:(4294967296:Int)^al.length*2^s<=4294967296^al.length*2147483648:=Int.mul_le_mul_of_nonneg_left k1 (by have:=dv al.length;omega)
  have k4:(4294967296:Int)^al.length=4294967296^m*4294967296*4294967296^(K+1):=by
   rw[hK,<-Int.pow_succ,<-Int.pow_add];congr 1;omega
  rw[k4] at k2 k3
  have k6:(2147483648:Int)*(4294967296^m*4294967296*4294967296^(K+1))=4294967296^m*4294967296*4294967296^(K+1)*2147483648:=Int.mul_comm _ _
  have k7:(2147483648:Int)*(4294967296^m*4294967296)*4294967296^(K+1)=2147483648*(4294967296^m*4294967296*4294967296^(K+1)):=Int.mul_assoc ..
  have hPK:=dv (K+1)
  have k8:(2147483648:Int)*(4294967296^m*4294967296)*4294967296^(K+1)<=(V:Int)*4294967296^(K+1):=Int.mul_le_mul_of_nonneg_right hVge (Int.le_of_lt hPK)
  omega
 have hup:=bG hu
 have hulk:u.length=K+m+3:=om
 rw[hulk] at hup
 have hvm:=hwv m
 have hvm1:=hwv (m+1)
 have hVexp:(V:Int)=(v.getD (m+1) 0*4294967296+v.getD m 0)*4294967296^m+pv v m:=by
  rw[hVp,pv,pv,ew1,Int.add_mul,Int.mul_assoc,Int.mul_comm 4294967296];omega
 have hvlo:=bc hwv m
 have htopge:2147483648<=v.getD (m+1) 0:=by
  rcases Int.lt_or_le (v.getD (m+1) 0) 2147483648 with hh | hh
  ·exfalso
   have k1:(v.getD (m+1) 0*4294967296+v.getD m 0+1)*4294967296^m<=(2147483647*4294967296+4294967296)*4294967296^m:=Int.mul_le_mul_of_nonneg_right om om
   rw[Int.add_mul] at k1
   omega
  ·exact hh
 have hV0:0<(V:Int):=om
 refine⟨λy=>∃j:Nat,y.1=(j:Int)-1/\j<=K+1/\y.2.1.length=K+m+3/\Words y.2.1/\y.2.2.length=K+1/\Words y.2.2/\(∀k,k<j->y.2.2.getD k 0=0)/\
   (val u:Int)=pv y.2.2 (K+1)*V+pv y.2.1 (K+m+3)/\pv y.2.1 (K+m+3)<V*4294967296^j,λy=>(y.1+1).toNat,
  ⟨K+1,rfl,Nat.le_refl _,hulk,hu,by simp[fh],Words.rep _,λk hk=>?_,?_,?_⟩,?_⟩
 ·show(List.replicate (K+1) (0:Int)).getD k 0=0
  rw[List.getD_eq_getElem?_getD,List.getElem?_replicate];split<;>rfl
 ·show(val u:Int)=pv (List.replicate (K+1) (0:Int)) (K+1)*V+pv u (K+m+3)
  rw[lX,<-hup];omega
 ·show pv u (K+m+3)<_
  rw[<-hup];exact hU
 clear hU hup hulk hul hu
 rintro⟨x,u1,q⟩ ⟨j,hx,hj,hul1,hu1,hql,hq,hqz,hsum,hrem⟩
 simp only at hx hj hul1 hu1 hql hq hqz hsum hrem
 subst hx
 refine condT (λhc=>?_) (λhc=>?_)
 ·obtain⟨i,rfl⟩:∃i,j=i+1:=⟨j-1,by omega⟩
  have ei:((i+1:Nat):Int)-1=(i:Int):=om
  have f1:(i:Int)+(v.length:Int)=((i+(m+2):Nat):Int):=om
  have f2:((i+(m+2):Nat):Int)-1=((i+(m+1):Nat):Int):=om
  have f3:((i+(m+2):Nat):Int)-2=((i+m:Nat):Int):=om
  have f4:((i+(m+2):Nat):Int)+1=((i+(m+3):Nat):Int):=om
  have f5:0+Int.toNat (i:Int)=i:=om
  have f6:Int.toNat ((i+(m+3):Nat):Int)-Int.toNat (i:Int)=m+3:=om
  have h1:=hu1 (i+(m+2))
  have h2:=hu1 (i+(m+1))
  have h3:=hu1 (i+m)
  have e32:(2:Int)^Int.toNat 32=4294967296:=rfl
  have g1:=wrap_u64_id (m:=u1.getD (i+(m+2)) 0) om om
  have g2:=wrap_u64_id (m:=u1.getD (i+(m+1)) 0) om om
  have g3:=wrap_u64_id (m:=u1.getD (i+m) 0) om om
  have g4:=wrap_u64_id (m:=v.getD (m+1) 0) om om
  have g5:=wrap_u64_id (m:=v.getD m 0) om om
  have g6:=wrap_u64_id (m:=u1.getD (i+(m+2)) 0*4294967296) om om
  have g7:=pm (x:=u1.getD (i+(m+1)) 0) (y:=u1.getD (i+(m+2)) 0*4294967296) 32 h2.1 h2.2 om (by show _ % 4294967296=0;omega) om
  simp only[ei,f1,f2,f3,f4,f5,f6,eu,e32,g1,g2,g3,g4,g5,g6,g7]
  obtain⟨P,hPd⟩:∃P,P=pv (u1.drop i) (m+3):=⟨_,rfl⟩
  have hPi:=dv i
  have hud:Words (u1.drop i):=hu1.drop i
  have hPb:=bc hud (m+3)
  have htot:pv u1 (K+m+3)=pv u1 i+P*4294967296^i:=by
   have k0:K+m+3=i+((m+3)+(K-i)):=om
   rw[k0,jC]
   congr 2
   rw[hPd]
   refine mC hud om ?_
   rw[k0,jC,Int.pow_succ] at hrem
   have k1:=(bc hu1 i).1
   have k2:pv (u1.drop i) (m+3+(K-i))*4294967296^i<(V*4294967296)*4294967296^i:=by
    rw[Int.mul_assoc,Int.mul_comm 4294967296];omega
   have k3:=Int.lt_of_mul_lt_mul_right k2 (Int.le_of_lt hPi)
   have k4:(4294967296:Int)^(m+3)=4294967296^(m+2)*4294967296:=Int.pow_succ ..
   omega
  have hPV:P<V*4294967296:=by
   have k1:=(bc hu1 i).1
   rw[htot,Int.pow_succ] at hrem
   have k2:P*4294967296^i<(V*4294967296)*4294967296^i:=by
    rw[Int.mul_assoc,Int.mul_comm 4294967296];omega
   exact Int.lt_of_mul_lt_mul_right k2 (Int.le_of_lt hPi)
  have hP0:0<=P:=by rw[hPd];exact hPb.1
  have hPexp:P=((u1.getD (i+(m+2)) 0*4294967296+u1.getD (i+(m+1)) 0)*4294967296+u1.getD (i+m) 0)*4294967296^m+pv (u1.drop i) m:=by
   rw[hPd,pv,pv,pv,eq,eq,eq,ew,ew1]
   generalize (4294967296:Int)^m=B
   generalize pv (u1.drop i) m=z
   grind
  have hhd:u1.getD (i+(m+2)) 0<=v.getD (m+1) 0:=by
   rcases Int.lt_or_le (v.getD (m+1) 0) (u1.getD (i+(m+2)) 0) with hh | hh
   ·exfalso
    have k1:(v.getD (m+1) 0+1)*(4294967296^m*4294967296*4294967296)<=u1.getD (i+(m+2)) 0*(4294967296^m*4294967296*4294967296):=Int.mul_le_mul_of_nonneg_right om om
    have k2:P=u1.getD (i+(m+2)) 0*(4294967296^m*4294967296*4294967296)+pv (u1.drop i) (m+2):=by rw[hPd,pv,eq,ew];omega
    have k3:=(bc hud (m+2)).1
    have k4:(V:Int)=v.getD (m+1) 0*(4294967296^m*4294967296)+pv v (m+1):=by rw[hVp,pv,ew1];omega
    have k5:=(bc hwv (m+1)).2
    rw[ew1] at k5
    have k6:(V:Int)*4294967296<(v.getD (m+1) 0+1)*(4294967296^m*4294967296*4294967296):=by
     rw[Int.add_mul,<-Int.mul_assoc (v.getD (m+1) 0),k4];omega
    omega
   ·exact hh
  refine⟨by unfold rng;omega,⟨by omega,by omega⟩,by unfold rng;omega,by unfold rng;omega,⟨by omega,by omega⟩,by omega,by omega,λg=>0<=g/\g<4294967296/\P<(g+1)*V/\(g-1)*V<=P,
   tC (next3:=λg=>0<=g/\g<4294967296/\P<(g+1)*V/\(g-1)*V<=P) (G1:=rng ((i+(m+2):Nat):Int)) (G2:=rng ((i+m:Nat):Int)) (G3:=(0:Int)<=((i+m:Nat):Int)/\((i+m:Nat):Int)<(u1.length:Int)) (by unfold rng;omega) (by unfold rng;omega) ⟨by omega,by omega⟩ htopge hvm1.2 hvm ⟨h1.1,hhd⟩ h2 h3 hVexp hvlo hPexp (bc hud m) hPm hPV (λg a1 a2 a3 a4=>⟨a1,a2,a3,a4⟩),?_⟩
  rintro g ⟨hg0,hg1,hgU,hgL⟩
  have hPW:(4294967296:Int)^(m+3)=4294967296^(m+2)*4294967296:=Int.pow_succ ..
  refine⟨λy=>Words y.2/\y.2.length=K+m+3/\(∀k,k<i\/i+(m+3)<=k->y.2.getD k 0=u1.getD k 0)/\0<=y.1/\y.1<4294967296/\pv (y.2.drop i) (m+3)=P-y.1*V/\P-y.1*V<V,?_,?_⟩
  ·refine⟨by unfold rng;omega,by unfold rng;omega,⟨by omega,by omega,by omega⟩,?_⟩
   refine pq hu1 hwv (by unfold SM;omega) om om hg0 hg1 (λw b hw hwl hwz hb hwp=>⟨hwl,?_⟩)
   rw[hvv,<-hPd] at hwp
   have hwd:=bc (hw.drop i) (m+3)
   have hgs:(g-1)*(V:Int)=g*V-V:=by rw[Int.sub_mul];omega
   have hga:(g+1)*(V:Int)=g*V+V:=by rw[Int.add_mul];omega
   rcases hb with rfl | rfl
   ·refine⟨λhh=>(by cases hh),λ_=>⟨hw,by show w.length=_;omega,hwz,hg0,hg1,?_,?_⟩⟩
    ·show pv (w.drop i) (m+3)=P-g*V
     omega
    ·show P-g*V<V
     omega
   ·refine⟨λ_=>⟨by unfold rng;omega,by unfold rng;omega,⟨by omega,by omega,by omega⟩,?_⟩,λhh=>by cases hh⟩
    refine pr hw hwv (by unfold SM;omega) om om (λw' c hw' hwl' hwz' hc' hwp'=>⟨hwl',?_⟩)
    rw[hvv] at hwp'
    have hwd':=bc (hw'.drop i) (m+3)
    have hg1':1<=g:=by
     rcases Int.lt_or_le g 1 with hh | hh
     ·have:g=0:=om
      subst this
      omega
     ·exact hh
    rw[wrap_u64_id (m:=g-1) om om]
    refine⟨hw',by show w'.length=_;omega,λk hk=>?_,by show 0<=g-1;omega,by show g-1<_;omega,?_,?_⟩
    ·show w'.getD k 0=_
     rw[hwz' k hk,hwz k hk]
    ·show pv (w'.drop i) (m+3)=P-(g-1)*V
     rcases hc' with rfl | rfl<;>omega
    ·show P-(g-1)*V<V
     omega
  ·rintro⟨g',u2⟩ ⟨hu2,hul2,hz2,hg0',hg1',hp2,hr2⟩
   simp only at hu2 hul2 hz2 hg0' hg1' hp2 hr2
   refine⟨⟨by omega,by omega⟩,by unfold rng;omega,⟨i,rfl,by omega,hul2,hu2,by simp[cg,hql],?_,λk hk=>?_,?_,?_⟩,by first | omega | (dsimp only;omega)⟩
   ·rw[wrap_u32,d4];exact hq.set _ om om
   ·show(cg q (i:Int) _).getD k 0=0
    rw[d4,bL om];exact hqz k om
   ·show(val u:Int)=pv (cg q (i:Int) (IntKind.u32.wrap g')) (K+1)*V+pv u2 (K+m+3)
    have k0:=q_ hz2 (K+m+3) om
    have hgm:g' % 4294967296=g':=om
    rw[d4,wrap_u32,hgm,eI om (K+1) om,hqz i om,Int.sub_zero,hsum,Int.add_mul]
    rw[hp2,<-hPd] at k0
    have k1:(P-g'*V-P)*4294967296^i = - (g'*4294967296^i*V):=by
     have:P-g'*V-P = - (g'*V):=om
     rw[this,Int.neg_mul,Int.mul_right_comm]
    omega
   ·show pv u2 (K+m+3)<V*4294967296^i
    have k0:=q_ hz2 (K+m+3) om
    rw[hp2,<-hPd,htot] at k0
    have k1:=(bc hu1 i).2
    have k2:(P-g'*V+1)*4294967296^i<=V*4294967296^i:=Int.mul_le_mul_of_nonneg_right om om
    have k3:(P-g'*V-P)*4294967296^i=(P-g'*V)*4294967296^i-P*4294967296^i:=by rw[Int.sub_mul]
    rw[Int.add_mul] at k2
    omega
 ·obtain rfl:j=0:=om
  rw[Int.pow_zero,Int.mul_one] at hrem
  have hq1:=bG hq
  have hu1v:=bG hu1
  rw[hql] at hq1
  rw[hul1] at hu1v
  rw[<-hq1,<-hu1v] at hsum
  rw[<-hu1v] at hrem
  have hsumN:val u=val q*V+val u1:=by
   have:((val u:Nat):Int)=((val q*V+val u1:Nat):Int):=by rw[Int.natCast_add,Int.natCast_mul];exact hsum
   omega
  have hVB:V=B*2^s:=hr4v
  have hps':0<2^s:=Nat.pow_pos om
  have hV0':0<V:=om
  have hdiv:A / B=val q:=by
   have k1:A*2^s / (B*2^s)=A / B:=Nat.mul_div_mul_right _ _ hps'
   rw[<-k1,<-huv,<-hVB,hsumN,Nat.add_comm,Nat.add_mul_div_right _ _ hV0',Nat.div_eq_of_lt om];omega
  have hmod:A % B=val u1 / 2^s:=by
   have k1:A*2^s % (B*2^s)=A % B*2^s:=Nat.mul_mod_mul_right _ _ _
   rw[<-huv,<-hVB,hsumN,Nat.add_comm,Nat.add_mul_mod_self_right,Nat.mod_eq_of_lt om] at k1
   rw[k1,Nat.mul_div_cancel _ hps']
  refine bE hq (by unfold SM;omega) (oe hu1 (by unfold SM;omega) om (λr hr hrl hrv=>bE hr (by unfold SM;omega) ?_))
  rw[hrv,<-hmod,<-hdiv]
  exact h
theorem lG {a b:List Int} {Q:List Int->Prop} (ha:Words a) (hb:Words b) (la:a.length<=1099511627774) (lb:b.length<=1099511627774) (h:Q (lim (Nat.gcd (val a) (val b)))):gC a b Q:=by
 refine bE ha (by unfold SM;omega) (bE hb (by unfold SM;omega) ?_)
 have b1:=cK ha
 have b2:=cK hb
 refine⟨λy=>∃m n:Nat,y=(lim m,lim n)/\(lim m).length<=1099511627774/\(lim n).length<=1099511627774/\Nat.gcd m n=Nat.gcd (val a) (val b),λy=>val y.2,⟨_,_,rfl,by omega,by omega,rfl⟩,?_⟩
 rintro _ ⟨m,n,rfl,hm,hn,hg⟩
 refine condT (λhc=>?_) (λhc=>?_)
 ·have hn0:n≠0:=by rintro rfl;rw[cB] at hc;simp at hc
  refine js (aq m) (aq n) hm hn (λh0=>absurd (by rw[aB] at h0;exact h0) hn0) (λ_=>?_)
  rw[aB,aB]
  have hlt:=Nat.mod_lt m (Nat.pos_of_ne_zero hn0)
  refine⟨⟨n,m % n,rfl,hn,Nat.le_trans (b8 (Nat.le_of_lt hlt)) hn,?_⟩,?_⟩
  ·rw[<-hg,Nat.gcd_comm n,<-Nat.gcd_rec,Nat.gcd_comm]
  ·show val (lim (m % n))<val (lim n)
   rw[aB,aB];exact hlt
 ·have hn0:n=0:=by
   rcases Nat.eq_zero_or_pos n with h0 | h0
   ·exact h0
   ·rw[d7 h0] at hc;simp at hc
  subst hn0
  rw[Nat.gcd_zero_right] at hg
  rw[<-hg] at h
  exact h
end Go.Gg
namespace Go.Gg
theorem mB {l:List Int} {n:Nat} {x:Int} (h:l.length=n):pv (l++[x]) (n+1)=pv l n+x*4294967296^n:=by
 rw[pv,uC om,lL om]
 have:n-l.length=0:=om
 rw[this];rfl
theorem Words.one {x:Int} (h0:0<=x) (h1:x<4294967296):Words [x]:=Words.nil.cons h0 h1
theorem pO {l:List Int} {x:Int} (h:l.length<=1099511627776):(l++[x]).length*4<=140737488355328:=by simp;omega
theorem bP {a:List Int} {i:Nat} {Q:Int->Prop} (hw:Words a) (h:Q (a.getD i 0)):bD a (i:Int) Q:=by
 refine condT (λhc=>⟨⟨by omega,hc⟩,?_⟩) (λhc=>?_)
 ·rw[eu]
  have:=hw i
  rw[wrap_u64_id om om]
  exact h
 ·rw[lh om] at h
  exact h
theorem cN {a:List Int} {Q:List Int->Prop} (hw:Words a) (hl:SM a) (h:Q (lim (val a))):ck a Q:=by
 refine⟨λn=>∃j:Nat,n=j/\j<=a.length/\(∀i,j<=i->i<a.length->a.getD i 0=0)/\(0<j->a.getD (j-1) 0≠0),?_,?_⟩
 ·refine⟨λn=>∃j:Nat,n=j/\j<=a.length/\(∀i,j<=i->i<a.length->a.getD i 0=0),λn=>n.toNat,⟨a.length,rfl,Nat.le_refl _,λi h1 h2=>om⟩,?_⟩
  rintro n ⟨j,rfl,hj,hz⟩
  refine condT (λhc=>⟨by unfold rng;omega,⟨by omega,by omega⟩,ce (λhe=>⟨by unfold rng;omega,⟨j-1,by omega,by omega,λi h1 h2=>?_⟩,by dsimp only;omega⟩) (λhe=>⟨j,rfl,hj,hz,λ_=>?_⟩)⟩) (λhc=>⟨j,rfl,hj,hz,λh0=>om⟩)
  ·by_cases hi:i=j-1
   ·subst hi
    rw[nG] at he
    have:((j:Int)-1).toNat=j-1:=om
    rwa[this] at he
   ·exact hz i om h2
  ·rw[nG] at he
   have:((j:Int)-1).toNat=j-1:=om
   rwa[this] at he
 ·rintro n ⟨j,rfl,hj,hz,hlast⟩
  have e:=mM hw hj hz hlast
  refine⟨⟨by omega,by omega,by omega⟩,?_,?_⟩
  ·simp[f8]
   have:min j a.length<=a.length:=om
   omega
  ·rw[<-e] at h
   simpa[f8] using h
theorem kA {a b:List Int} {Q:Int->Prop} (ha:Words a) (hb:Words b) (la:SM a) (lb:SM b) (h:Q (jZ (val a) (val b))):fG a b Q:=by
 unfold SM at la lb
 obtain⟨N,hN⟩:∃N,N=max a.length b.length:=⟨_,rfl⟩
 have hNi:max (a.length:Int) (b.length:Int)=(N:Int):=om
 have v1:=cX ha (i:=N) om
 have v2:=cX hb (i:=N) om
 unfold fG
 rw[hNi]
 refine⟨by unfold rng;omega,fH ⟨λi=>∃j:Nat,i=(j:Int)-1/\j<=N/\(∀k,j<=k->k<N->a.getD k 0=b.getD k 0),λi=>(i+1).toNat,⟨N,rfl,Nat.le_refl _,λk h1 h2=>om⟩,?_⟩⟩
 rintro _ ⟨j,rfl,hj,he⟩
 refine condT (λhc=>?_) (λhc=>?_)
 ·obtain⟨i,rfl⟩:∃i,j=i+1:=⟨j-1,by omega⟩
  have ei:((i+1:Nat):Int)-1=(i:Int):=om
  rw[ei]
  refine bP ha (bP hb (condT (λh1=>?_) (λh1=>bP ha (bP hb (condT (λh2=>?_) (λh2=>⟨by unfold rng;omega,⟨i,rfl,by omega,λk h3 h4=>?_⟩,by dsimp only;omega⟩))))))
  ·have:=t1 ha hb (i:=i) (n:=N) om h1 (λk h1 h2=>he k om h2)
   rw[jZ,if_pos om] at h;exact h
  ·have:=t1 hb ha (i:=i) (n:=N) om h2 (λk h1 h2=>(he k om h2).symm)
   rw[jZ,if_neg om,if_neg om] at h;exact h
  ·by_cases hk:k=i
   ·subst hk;omega
   ·exact he k om h4
 ·have:=gP (l:=a) (m:=b) N (λk hk=>he k om hk)
  rw[jZ,if_neg om,if_pos om] at h;exact h
theorem si {a b:List Int} {Q:List Int->Prop} (ha:Words a) (hb:Words b) (lb:a.length<=1099511627775/\b.length<=1099511627775) (h:Q (lim (val a+val b))):ja a b Q:=by
 obtain⟨n,hn0⟩:∃n,n=max a.length b.length+1:=⟨_,rfl⟩
 have hn:max (a.length:Int) (b.length:Int)+1=(n:Int):=om
 unfold ja
 rw[hn]
 refine⟨by unfold rng;omega,?_⟩
 refine⟨λy=>∃i:Nat,y.2.1=i/\i<=n/\y.2.2.length=i/\Words y.2.2/\0<=y.1/\y.1<=1/\pv y.2.2 i+y.1*4294967296^i=pv a i+pv b i,λy=>n-y.2.1.toNat,⟨0,rfl,by omega,rfl,Words.nil,by show(0:Int)<=0;omega,by show(0:Int)<=1;omega,by simp[pv]⟩,?_⟩
 rintro⟨c,x,out⟩ ⟨i,hx,hi,hlen,hw,hc0,hc1,hpv⟩
 simp only at hx hi hlen hw hc0 hc1 hpv
 subst hx
 have hxl:=ha i
 have hxm:=hb i
 refine condT (λhlt=>?_) (λhge=>?_)
 ·refine bP ha (bP hb (fH ⟨pO om,by unfold rng;omega,?_,by dsimp only;omega⟩))
  rw[wrap_u64_id (m:=a.getD i 0+b.getD i 0) om om,wrap_u64_id om om,wrap_u32]
  have e32:∀z:Int,z / 2^Int.toNat 32=z / 4294967296:=λ_=>rfl
  rw[e32]
  generalize hd:a.getD i 0+b.getD i 0+c=d
  refine⟨i+1,rfl,by omega,by simp[hlen],hw.append (Words.one om om),by show 0<=d / 4294967296;omega,by show d / 4294967296<=1;omega,?_⟩
  show pv (out++[d % 4294967296]) (i+1)+d / 4294967296*_=_
  rw[mB hlen,Int.pow_succ,pv,pv,Int.add_assoc,i7,<-hd,Int.add_mul,Int.add_mul]
  omega
 ·obtain rfl:i=n:=om
  refine cN hw (by unfold SM;omega) ?_
  have e:val out=val a+val b:=by
   have a1:=cX hw (i:=i) om
   have a2:=cX ha (i:=i) om
   have a3:=cX hb (i:=i) om
   have b2:=j3 (l:=a) (i-1) om
   have b3:=j3 (l:=b) (i-1) om
   have b4:=j3 (l:=a) i om
   have b5:=j3 (l:=b) i om
   have c2:=(bc ha (i-1)).2
   have c3:=(bc hb (i-1)).2
   have c4:=(bc hw i).1
   have hi1:i=i-1+1:=om
   have hc:=hpv
   rw[hi1,Int.pow_succ,<-hi1] at hc
   have:=pH hc om om om hc0 hc1 (dv _)
   subst this
   omega
  rw[e]
  exact h
theorem i9 {a b:List Int} {Q:List Int->Int->Prop} (ha:Words a) (hb:Words b) (la:SM a) (lb:SM b) (h1:val a<val b->Q [] 3) (h2:val b<=val a->Q (lim (val a-val b)) 0):gN a b Q:=by
 refine kA ha hb la lb (condT (λhc=>h1 (iv.1 hc)) (λhc=>?_))
 have hge:val b<=val a:=by have:=mt iv.2 hc;omega
 have h:=h2 hge
 clear h1 h2
 unfold SM at la lb
 refine⟨λy=>∃i:Nat,y.2.1=i/\i<=a.length/\y.2.2.length=i/\Words y.2.2/\0<=y.1/\y.1<=1/\pv y.2.2 i=pv a i-pv b i+y.1*4294967296^i,λy=>a.length-y.2.1.toNat,⟨0,rfl,by omega,rfl,Words.nil,by show(0:Int)<=0;omega,by show(0:Int)<=1;omega,by simp[pv]⟩,?_⟩
 rintro⟨c,x,out⟩ ⟨i,hx,hi,hlen,hw,hb0,hb1,hpv⟩
 simp only at hx hi hlen hw hb0 hb1 hpv
 subst hx
 have hxl:=ha i
 have hxm:=hb i
 obtain⟨q1,q2,q3⟩:=oL (a.getD i 0) (b.getD i 0) c hxl hxm ⟨hb0,hb1⟩
 refine condT (λhlt=>bP ha (bP hb (fH ⟨pO om,by unfold rng;omega,?_,by dsimp only;omega⟩))) (λhge=>?_)
 ·simp only[wrap_u32]
  generalize IntKind.u64.wrap (IntKind.u64.wrap (a.getD i 0-b.getD i 0)-c)=d at *
  have e63:d / 2^Int.toNat 63=d / 9223372036854775808:=rfl
  refine⟨i+1,rfl,by omega,by simp[hlen],hw.append (Words.one om om),by simpa only[e63] using q2,by simpa only[e63] using q3,?_⟩
  simp only[e63]
  rw[mB hlen,Int.pow_succ,pv,pv,hpv]
  have e:d % 4294967296=a.getD i 0-b.getD i 0-c+4294967296*(d / 9223372036854775808):=om
  rw[e]
  generalize d / 9223372036854775808=d'
  have a1:=Int.add_mul (a.getD i 0-b.getD i 0-c) (4294967296*d') (4294967296^i)
  have a2:=Int.sub_mul (a.getD i 0-b.getD i 0) c (4294967296^i)
  have a3:=Int.sub_mul (a.getD i 0) (b.getD i 0) (4294967296^i)
  have a4:4294967296*d'*4294967296^i=d'*(4294967296^i*4294967296):=by rw[Int.mul_comm 4294967296 d',Int.mul_assoc,Int.mul_comm 4294967296]
  omega
 ·obtain rfl:i=a.length:=om
  refine cN hw (by unfold SM;omega) ?_
  have e:val out=val a-val b:=by
   have a1:=cX hw (i:=a.length) om
   have a2:=bG ha
   have a3:=bc ha a.length
   have a4:=bc hw a.length
   have a5:=bc hb a.length
   have a6:=bG hb
   rcases Nat.lt_or_ge a.length b.length with h | h
   ·have hm1:=kY hb (Nat.le_of_lt h)
    rcases (by omega:c=0\/c=1) with rfl | rfl
    ·have hz:pv b b.length=pv b a.length:=by
      refine mC hb (Nat.le_of_lt h) ?_
      omega
     omega
    ·omega
   ·have hm1:=cX hb h
    rcases (by omega:c=0\/c=1) with rfl | rfl<;>omega
  rw[e]
  exact h
theorem v_ {X C A1 B1 P1 P2:Int} (f1:0<=X) (f2:1*(P1*P2)<=C*(P1*P2)) (h:X+C*(P1*P2)=A1*B1) (a0:0<=A1) (a1:A1<P1) (_b0:0<=B1) (b1:B1<P2) (_p1:0<P1) (p2:0<P2):False:=by
 have h1:A1*B1<=A1*P2:=Int.mul_le_mul_of_nonneg_left om a0
 have h2:A1*P2<P1*P2:=Int.mul_lt_mul_of_pos_right a1 p2
 omega
set_option maxHeartbeats 1000000 in
theorem dX {a b:List Int} {Q:List Int->Prop} (ha:Words a) (hb:Words b) (la:a.length+b.length<=1099511627775) (h:Q (lim (val a*val b))):cQ a b Q:=by
 obtain⟨N,hN⟩:∃N,N=a.length+b.length+1:=⟨_,rfl⟩
 have hNi:(a.length:Int)+(b.length:Int)+1=(N:Int):=om
 have hL:(b.length:Int)+1=((b.length+1:Nat):Int):=om
 unfold cQ
 rw[hNi,hL]
 refine⟨by unfold rng;omega,by unfold rng;omega,mK om om,?_⟩
 refine⟨λy=>∃i:Nat,y.1=i/\i<=a.length/\y.2.length=N/\Words y.2/\pv y.2 (i+b.length)=pv a i*pv b b.length/\(∀p,i+b.length<=p->y.2.getD p 0=0),λy=>a.length-y.1.toNat,
  ⟨0,rfl,by omega,by simp[fh],Words.rep _,by rw[oC,lX];simp[pv],λp hp=>by rw[oC,List.getD_eq_getElem?_getD,List.getElem?_replicate];split<;>rfl⟩,?_⟩
 rintro⟨x,out⟩ ⟨i,hx,hi,hlen,hw,hpv,hz⟩
 simp only at hx hi hlen hw hz hpv
 subst hx
 have hxi:=ha i
 refine condT (λhlt=>⟨⟨by omega,hlt⟩,by unfold rng;omega,?_⟩) (λhge=>?_)
 ·have hbl:pv b (b.length+1)=pv b b.length:=j3 _ om
  refine⟨λy=>∃k:Nat,y.2.1=k/\k<=b.length+1/\y.2.2.length=N/\Words y.2.2/\(∀p,i+(b.length+1)<=p->y.2.2.getD p 0=0)/\0<=y.1/\y.1<4294967296/\(k=b.length+1->y.1=0)/\
    pv y.2.2 N+y.1*4294967296^(i+k)=pv a i*pv b b.length+a.getD i 0*4294967296^i*pv b k,λy=>b.length+1-y.2.1.toNat,
   ⟨0,rfl,by omega,hlen,hw,λp hp=>hz p om,by show(0:Int)<=0;omega,by show(0:Int)<_;omega,by omega,?_⟩,?_⟩
  ·show pv out N+0*_=_
   rw[jV (j:=i+b.length) N om (λk h1 h2=>hz k h1),hpv];simp[pv]
  clear hpv hz hw hlen h
  rintro⟨c,x1,out2⟩ ⟨k,hx,hk,hlen,hw,hz,hc0,hc1,hck,hpv⟩
  simp only at hx hk hlen hw hz hc0 hc1 hck hpv
  subst hx
  have hy:=hb k
  have ho:=hw (i+k)
  obtain⟨q1,q2⟩:=sD hxi hy
  have eik:(i:Int)+(k:Int)=((i+k:Nat):Int):=om
  refine condT (λhlt2=>⟨b.getD k 0,bP hb rfl,by unfold rng;omega,⟨by omega,by omega⟩,by unfold rng;omega,⟨by omega,by omega⟩,fH ⟨by unfold rng;omega,?_,by dsimp only;omega⟩⟩) (λhge2=>⟨by unfold rng;omega,?_,by dsimp only;omega⟩)
  ·simp only[eik,eu,d4]
   simp (disch:=omega) only[wrap_u64_id,wrap_u32]
   have e32:∀z:Int,z / 2^Int.toNat 32=z / 4294967296:=λ_=>rfl
   simp only[e32]
   generalize hv:a.getD i 0*b.getD k 0+out2.getD (i+k) 0+c=v
   have hnew:pv (out2.set (i+k) (v % 4294967296)) N+v / 4294967296*4294967296^(i+(k+1))=pv a i*pv b b.length+a.getD i 0*4294967296^i*pv b (k+1):=by
    rw[eI om N om,pv,<-Nat.add_assoc,Int.pow_succ,Int.mul_add,<-Int.add_assoc,<-hpv]
    have s1:=i7 v (4294967296^(i+k))
    have s2:=Int.sub_mul (v % 4294967296) (out2.getD (i+k) 0) (4294967296^(i+k))
    have s3:v*4294967296^(i+k)=a.getD i 0*4294967296^i*(b.getD k 0*4294967296^k)+out2.getD (i+k) 0*4294967296^(i+k)+c*4294967296^(i+k):=by
     rw[<-hv,Int.add_mul,Int.add_mul,Int.pow_add]
     congr 2
     rw[Int.mul_assoc,Int.mul_assoc,Int.mul_left_comm (b.getD k 0)]
    omega
   refine⟨k+1,rfl,by omega,by simp[hlen],hw.set _ om om,λp hp=>?_,by show 0<=v / 4294967296;omega,by show v / 4294967296<4294967296;omega,λhkb=>?_,hnew⟩
   ·show(out2.set (i+k) _).getD p 0=0
    rw[bL om];exact hz p hp
   ·show v / 4294967296=0
    have:k=b.length:=om
    have hy0:b.getD k 0=0:=lh om
    have ho0:out2.getD (i+k) 0=0\/True:=.inr trivial
    rw[hy0,Int.mul_zero] at hv
    rcases Int.lt_or_le v 4294967296 with h1 | h1
    ·omega
    ·exfalso
     have f1:=(bc (hw.set (i+k) (x:=v % 4294967296) om om) N).1
     have f2:1*(4294967296:Int)^(i+(k+1))<=v / 4294967296*4294967296^(i+(k+1)):=Int.mul_le_mul_of_nonneg_right om (by have:=dv (i+(k+1));omega)
     have f3:=(bc ha (i+1)).2
     have f4:=bc hb b.length
     have f5:pv a i*pv b b.length+a.getD i 0*4294967296^i*pv b (k+1)=pv a (i+1)*pv b b.length:=by
      have:pv b (k+1)=pv b b.length:=j3 _ om
      rw[this,pv,Int.add_mul]
     have f7:(4294967296:Int)^(i+(k+1))=4294967296^(i+1)*4294967296^b.length:=by rw[<-Int.pow_add];congr 1;omega
     have f9:=dv (i+1)
     have f10:=dv b.length
     rw[f5,f7] at hnew
     rw[f7] at f2
     have f0:=(bc ha (i+1)).1
     generalize (4294967296:Int)^(i+1)=P1 at *
     generalize (4294967296:Int)^b.length=P2 at *
     generalize pv a (i+1)=A1 at *
     generalize pv b b.length=B1 at *
     exact v_ f1 f2 hnew f0 f3 f4.1 f4.2 f9 f10
  ·obtain rfl:k=b.length+1:=om
   have:=hck rfl
   subst this
   refine⟨i+1,rfl,by omega,hlen,hw,?_,λp hp=>hz p om⟩
   show pv out2 (i+1+b.length)=pv a (i+1)*pv b b.length
   rw[<-jV (j:=i+1+b.length) N om (λk h1 h2=>hz k om),pv,Int.add_mul]
   rw[hbl] at hpv
   omega
 ·obtain rfl:i=a.length:=om
  refine cN hw (by unfold SM;omega) ?_
  have e:val out=val a*val b:=by
   have a1:=cX hw (i:=N) om
   rw[jV (j:=a.length+b.length) N om (λk h1 h2=>hz k h1),hpv] at a1
   have a2:=bG ha
   have a3:=bG hb
   have:((val a*val b:Nat):Int)=(val a:Int)*(val b:Int):=by simp
   have:(val out:Int)=((val a*val b:Nat):Int):=by rw[this,a1,a2,a3]
   omega
  rw[e]
  exact h
end Go.Gg
namespace Go.Gg
theorem o5 {a:List Int} {n:Nat} {Q:List Int->Prop} (ha:Words a) (la:a.length<=1099511627775) (hn:n<=32) (h:Q (lim (val a*2^n))):jT a (n:Int) Q:=by
 have hpp:=dM n
 have hs:=kU hn
 have hqp:=dM (32-n)
 have hple:(2:Int)^n<=4294967296:=by
  have:(2:Int)^n*1<=2^n*2^(32-n):=Int.mul_le_mul_of_nonneg_left om om
  omega
 refine⟨λy=>∃i:Nat,y.2.1=i/\i<=a.length/\y.2.2.length=i/\Words y.2.2/\0<=y.1/\y.1<2^n/\pv y.2.2 i+y.1*4294967296^i=pv a i*2^n,λy=>a.length-y.2.1.toNat,⟨0,rfl,by omega,rfl,Words.nil,by show(0:Int)<=0;omega,hpp,by simp[pv]⟩,?_⟩
 rintro⟨c,x,out⟩ ⟨i,hx,hi,hlen,hw,hc0,hc1,hpv⟩
 simp only at hx hi hlen hw hc0 hc1 hpv
 subst hx
 have hxi:=ha i
 refine condT (λhlt=>⟨⟨by omega,hlt⟩,⟨by omega,by omega⟩,?_⟩) (λhge=>?_)
 ·rw[eu,Int.toNat_natCast]
  have hy0:0<=a.getD i 0*2^n:=Int.mul_nonneg hxi.1 om
  have hy1:a.getD i 0*2^n<=4294967295*2^n:=Int.mul_le_mul_of_nonneg_right om om
  have hmod:a.getD i 0*2^n % 2^n=0:=Int.mul_emod_left _ _
  have hor:bits .or .u64 c (a.getD i 0*2^n)=a.getD i 0*2^n+c:=ra n hc0 hc1 hy0 hmod om
  rw[wrap_u64_id hxi.1 om,wrap_u64_id hy0 om,hor]
  refine fH ⟨pO om,by unfold rng;omega,?_,by dsimp only;omega⟩
  have e32:∀z:Int,z / 2^Int.toNat 32=z / 4294967296:=λ_=>rfl
  rw[e32,wrap_u32]
  generalize hd:a.getD i 0*2^n+c=d
  refine⟨i+1,rfl,by omega,by simp[hlen],hw.append (Words.one om om),by show 0<=d / 4294967296;omega,?_,?_⟩
  ·show d / 4294967296<2^n
   rw[Int.ediv_lt_iff_lt_mul om];omega
  ·show pv (out++[d % 4294967296]) (i+1)+d / 4294967296*_=_
   rw[mB hlen,Int.pow_succ,Int.add_assoc,i7,<-hd,pv,Int.add_mul,Int.add_mul,<-hpv,Int.mul_right_comm]
   omega
 ·obtain rfl:i=a.length:=om
  rw[wrap_u32]
  have hcm:c % 4294967296=c:=om
  rw[hcm]
  refine⟨pO om,cN (hw.append (Words.one hc0 om)) (by simp[SM];omega) ?_⟩
  have e:val (out++[c])=val a*2^n:=by
   have a1:=cX (hw.append (Words.one hc0 (by omega:c<4294967296))) (i:=a.length+1) (by simp;omega)
   rw[mB hlen,hpv,<-bG ha] at a1
   have:((val a*2^n:Nat):Int)=(val a:Int)*2^n:=by simp
   omega
  rw[e];exact h
theorem q9 {a:List Int} {n:Nat} {Q:List Int->Prop} (ha:Words a) (la:SM a) (hn:n<=32) (h:Q (lim (val a / 2^n))):io a (n:Int) Q:=by
 unfold SM at la
 have hs:=kU hn
 have hpp:=dM n
 have hqp:=dM (32-n)
 unfold io
 generalize hp:(2:Int)^n=p at *
 generalize (2:Int)^(32-n)=q at *
 refine⟨λy=>∃i:Nat,y.1=i/\i<=a.length/\y.2.length=i/\Words y.2/\pv y.2 i*p=pv a i-a.getD 0 0 % p+(a.getD i 0 % p)*4294967296^i,λy=>a.length-y.1.toNat,
  ⟨0,rfl,by omega,rfl,Words.nil,by simp[pv];omega⟩,?_⟩
 rintro⟨x,out⟩ ⟨i,hx,hi,hlen,hw,hpv⟩
 simp only at hx hi hlen hw hpv
 subst hx
 have h0:=ha i
 have h1:=ha (i+1)
 have e1:(i:Int)+1=((i+1:Nat):Int):=om
 refine condT (λhlt=>bP ha ⟨by unfold rng;omega,?_⟩) (λhge=>?_)
 ·rw[e1]
  refine bP ha ⟨⟨by omega,by omega⟩,pO om,by unfold rng;omega,?_,by dsimp only;omega⟩
  have e32:(2:Int)^Int.toNat 32=4294967296:=rfl
  rw[e32,Int.toNat_natCast,hp,wrap_u64_id om om,ra 32 h0.1 h0.2 om (by show _ % 4294967296=0;omega) om,wrap_u32]
  generalize ha0:a.getD i 0=x0 at *
  generalize ha1:a.getD (i+1) 0=x1 at *
  have hx0:0<=x0 / p:=Int.ediv_nonneg h0.1 om
  have hx0':x0 / p<q:=by rw[Int.ediv_lt_iff_lt_mul hpp,Int.mul_comm,hs];exact h0.2
  have hm0:0<=x1 % p:=Int.emod_nonneg _ om
  have hm1:x1 % p<p:=Int.emod_lt_of_pos _ hpp
  have hdv:(x1*4294967296+x0) / p=x1*q+x0 / p:=by
   rw[<-hs,Int.mul_left_comm,Int.add_comm,Int.add_mul_ediv_left _ _ om,Int.add_comm]
  have hk:(x1*4294967296+x0) / p % 4294967296=(x1 % p)*q+x0 / p:=by
   have d1:x1=p*(x1 / p)+x1 % p:=(Int.mul_ediv_add_emod x1 p).symm
   have d2:x1*q+x0 / p=(x1 % p)*q+x0 / p+4294967296*(x1 / p):=by
    have:x1*q=(p*(x1 / p)+x1 % p)*q:=by rw[<-d1]
    rw[this,Int.add_mul,Int.mul_right_comm,hs];omega
   rw[hdv,d2,Int.add_mul_emod_self_left]
   refine Int.emod_eq_of_lt ?_ ?_
   ·have:=Int.mul_nonneg hm0 (Int.le_of_lt hqp);omega
   ·have:(x1 % p)*q<=(p-1)*q:=Int.mul_le_mul_of_nonneg_right om om
    rw[Int.sub_mul,hs] at this;omega
  rw[hk]
  have hq0:=Int.mul_nonneg hm0 (Int.le_of_lt hqp)
  have hq1:(x1 % p)*q<=(p-1)*q:=Int.mul_le_mul_of_nonneg_right om om
  rw[Int.sub_mul,hs] at hq1
  refine⟨i+1,rfl,by omega,by simp[hlen],hw.append (Words.one om om),?_⟩
  show pv (out++[x1 % p*q+x0 / p]) (i+1)*p=pv a (i+1)-_+_
  rw[mB hlen,pv,Int.add_mul,hpv,ha0,ha1,Int.pow_succ]
  have d0:x0=p*(x0 / p)+x0 % p:=(Int.mul_ediv_add_emod x0 p).symm
  have s1:(x1 % p*q+x0 / p)*4294967296^i*p=x1 % p*(4294967296^i*4294967296)+(p*(x0 / p))*4294967296^i:=by
   rw[Int.add_mul,Int.add_mul]
   congr 1
   ·rw[<-hs,Int.mul_assoc,Int.mul_assoc,Int.mul_left_comm q,Int.mul_comm q p]
   ·rw[Int.mul_right_comm,Int.mul_comm (x0 / p)]
  have s2:x0*4294967296^i=(p*(x0 / p))*4294967296^i+x0 % p*4294967296^i:=by
   rw[<-Int.add_mul,<-d0]
  omega
 ·obtain rfl:i=a.length:=om
  refine cN hw (by unfold SM;omega) ?_
  have a1:=bG hw
  have a2:=bG ha
  rw[hlen] at a1
  rw[lh (Nat.le_refl a.length),Int.zero_emod,Int.zero_mul,<-a2,<-a1] at hpv
  have hr0:0<=a.getD 0 0 % p:=Int.emod_nonneg _ om
  have hr1:a.getD 0 0 % p<p:=Int.emod_lt_of_pos _ hpp
  have e:(val a:Int) / p=val out:=by
   have:(val a:Int)=p*val out+a.getD 0 0 % p:=by rw[Int.mul_comm];omega
   rw[this,Int.add_comm,Int.add_mul_ediv_left _ _ om,Int.ediv_eq_zero_of_lt hr0 hr1];omega
  have e2:((val a / 2^n:Nat):Int)=(val a:Int) / p:=by rw[<-hp];simp
  have:val out=val a / 2^n:=om
  rw[this];exact h
theorem xG {y:Int} (h0:0<=y) (h1:y<4294967296):bits .and .u32 y 1=y % 2:=by
 obtain⟨m,rfl⟩:=Int.eq_ofNat_of_zero_le h0
 show IntKind.u32.wrap (((BitVec.ofInt 32 (m:Int)) &&& (BitVec.ofInt 32 1)).toNat:Int)=_
 rw[wrap_u32,BitVec.toNat_and,BitVec.toNat_ofInt,BitVec.toNat_ofInt]
 have e1:((m:Int) % ((2^32:Nat):Int)).toNat=m:=om
 have e2:((1:Int) % ((2^32:Nat):Int)).toNat=1:=om
 rw[e1,e2,Nat.and_one_is_mod]
 omega
theorem rx (m i:Nat):m &&& 2^i=if m.testBit i then 2^i else 0:=by
 refine Nat.eq_of_testBit_eq (λj=>?_)
 rw[Nat.testBit_and,Nat.testBit_two_pow]
 by_cases h:i=j
 ·subst h
  cases hb:m.testBit i<;>simp
 ·split<;>simp[h]
theorem xF {y:Int} (h0:0<=y) (h1:y<4294967296):bits .and .u32 y 2147483648=if y<2147483648 then 0 else 2147483648:=by
 obtain⟨m,rfl⟩:=Int.eq_ofNat_of_zero_le h0
 show IntKind.u32.wrap (((BitVec.ofInt 32 (m:Int)) &&& (BitVec.ofInt 32 2147483648)).toNat:Int)=_
 rw[wrap_u32,BitVec.toNat_and,BitVec.toNat_ofInt,BitVec.toNat_ofInt]
 have e1:((m:Int) % ((2^32:Nat):Int)).toNat=m:=om
 have e2:((2147483648:Int) % ((2^32:Nat):Int)).toNat=2^31:=by decide
 rw[e1,e2,rx]
 have:m.testBit 31=decide (2147483648<=m):=by
  rw[Nat.testBit_eq_decide_div_mod_eq]
  have e:m / 2^31=m / 2147483648:=rfl
  rw[e]
  by_cases hm:2147483648<=m
  ·have:m / 2147483648=1:=om
   rw[this];simp[hm]
  ·have:m / 2147483648=0:=om
   rw[this];simp[hm]
 rw[this]
 by_cases hm:2147483648<=m
 ·have h2:¬((m:Int)<2147483648):=om
  simp only[hm,decide_true,if_true]
  show _=if (m:Int)<2147483648 then _ else _
  rw[if_neg h2];rfl
 ·have h2:(m:Int)<2147483648:=om
  simp only[hm,decide_false,Bool.false_eq_true,if_false]
  show _=if (m:Int)<2147483648 then _ else _
  rw[if_pos h2];rfl
theorem wG {x p:Nat} (h:x<2^p):bv (x+2^p)=p+1:=by
 refine nE ?_ (λ_=>?_)
 ·rw[Nat.pow_succ];omega
 ·rw[Nat.add_sub_cancel];omega
theorem jU {a:List Int} {Q:Int->Prop} (ha:Words a) (la:SM a) (h:Q (bv (val a))):fT a Q:=by
 unfold SM at la
 refine⟨λy=>∃i:Nat,y.2=i/\i<=a.length/\y.1=((bv (pv a i).toNat:Nat):Int),λy=>a.length-y.2.toNat,⟨0,rfl,by omega,rfl⟩,?_⟩
 rintro⟨n,x⟩ ⟨i,hx,hi,hn⟩
 simp only at hx hi hn
 subst hx hn
 have hxi:=ha i
 obtain⟨w,hw⟩:∃w:Nat,a.getD i 0=w:=⟨(a.getD i 0).toNat,by omega⟩
 obtain⟨b1,b2⟩:=bc ha i
 obtain⟨A,hA⟩:∃A:Nat,pv a i=A:=⟨(pv a i).toNat,by omega⟩
 have hW:(4294967296:Int)^i=((2^(32*i):Nat):Int):=by rw[Nat.pow_mul];simp
 refine condT (λhlt=>⟨⟨by omega,hlt⟩,?_⟩) (λhge=>?_)
 ·refine⟨λy=>∃k:Nat,y.2=k/\k<=32/\y.1=((bv (A+w % 2^k*2^(32*i)):Nat):Int),λy=>32-y.2.toNat,⟨0,rfl,by omega,?_⟩,?_⟩
  ·show((bv (pv a i).toNat:Nat):Int)=_
   rw[hA];simp[Nat.mod_one]
  rintro⟨n,x⟩ ⟨k,hx,hk,hn⟩
  simp only at hx hk hn
  subst hx hn
  refine condT (λhk2=>⟨⟨by omega,by omega⟩,?_⟩) (λhk2=>⟨by unfold rng;omega,⟨i+1,rfl,by omega,?_⟩,by dsimp only;omega⟩)
  ·have hpk:0<2^k:=Nat.pow_pos om
   have ed:a.getD i 0 / 2^k=((w / 2^k:Nat):Int):=by rw[hw];simp
   have hdle:w / 2^k<=w:=Nat.div_le_self _ _
   have hsucc:w % 2^(k+1)=w % 2^k+2^k*(w / 2^k % 2):=Nat.mod_pow_succ
   generalize w / 2^k=z at *
   rw[eu,Int.toNat_natCast,ed,xG om om]
   refine ce (λhe=>⟨by unfold rng;omega,by unfold rng;omega,by unfold rng;omega,by unfold rng;omega,⟨k+1,rfl,by omega,?_⟩,by dsimp only;omega⟩) (λhe=>⟨by unfold rng;omega,⟨k+1,rfl,by omega,?_⟩,by dsimp only;omega⟩)
   ·have h2:z % 2=1:=om
    show 32*(i:Int)+k+1=_
    rw[hsucc,h2,Nat.mul_one]
    have e:A+(w % 2^k+2^k)*2^(32*i)=(A+w % 2^k*2^(32*i))+2^(32*i+k):=by
     rw[Nat.add_mul,Nat.pow_add,Nat.mul_comm (2^(32*i)) (2^k)];omega
    have hlt2:A+w % 2^k*2^(32*i)<2^(32*i+k):=by
     have h3:w % 2^k<2^k:=Nat.mod_lt _ hpk
     have h4:(w % 2^k+1)*2^(32*i)<=2^k*2^(32*i):=Nat.mul_le_mul_right _ h3
     rw[Nat.pow_add,Nat.mul_comm (2^(32*i)) (2^k)]
     rw[Nat.add_mul] at h4
     omega
    rw[e,wG hlt2];omega
   ·have h2:z % 2=0:=om
    show((bv (A+w % 2^k*2^(32*i)):Nat):Int)=_
    rw[hsucc,h2,Nat.mul_zero,Nat.add_zero]
  ·obtain rfl:k=32:=om
   show((bv (A+w % 2^32*2^(32*i)):Nat):Int)=((bv (pv a (i+1)).toNat:Nat):Int)
   have hm:w % 2^32=w:=Nat.mod_eq_of_lt om
   have:(pv a (i+1)).toNat=A+w*2^(32*i):=by
    have:pv a (i+1)=((A+w*2^(32*i):Nat):Int):=by rw[pv,hA,hw,hW,Int.natCast_add,Int.natCast_mul]
    omega
   rw[hm,this]
 ·obtain rfl:i=a.length:=om
  exact h
end Go.Gg
namespace Go.Gg
theorem w9 {s:Nat} (h:s<=31):rng ((s:Int)+1):=by unfold rng;omega
theorem xB {s:Nat} (h:s<=31):32-((s:Int)+1).toNat<32-(s:Int).toNat:=om
theorem rt {m n:Nat}:0<jZ m n↔n<m:=by
 unfold jZ
 by_cases h:m<n
 ·simp only[h,if_true];omega
 ·rw[if_neg h];split<;>omega
theorem qo {R k:Nat} (h:R<4294967296^k):(R:Int)=pv (lim R) k:=by
 have h1:=fz h
 have h2:=cX (aq R) h1
 rw[aB] at h2
 exact h2
theorem ub {g:Nat} (h:g<4294967296):val [(g:Int)]=g:=by
 rw[gK (Words.one om om),jN];omega
set_option maxHeartbeats 2000000 in
theorem kz {a b:List Int} {Q:List Int->List Int->Int->Prop} (ha:Words a) (hb:Words b) (la:a.length<=1099511627760) (lb:b.length<=1099511627760)
  (h0:val b=0->Q [] [] 8) (h:val b≠0->Q (lim (val a / val b)) (lim (val a % val b)) 0):gO a b Q:=by
 refine cN hb (by unfold SM;omega) ?_
 have b2:=cK hb
 have w2:=aq (val b)
 have v2:=aB (val b)
 refine ce (λhc=>?_) (λhc=>?_)
 ·have:(lim (val b)).length=0:=om
  have:lim (val b)=[]:=List.eq_nil_of_length_eq_zero this
  rw[this,jN] at v2
  exact h0 v2.symm
 have hB:val b≠0:=by intro hh;rw[hh,cB] at hc;exact hc rfl
 replace h:=h hB
 clear h0
 obtain⟨m,hm⟩:∃m,(lim (val b)).length=m+1:=⟨(lim (val b)).length-1,by omega⟩
 have htop:=rj hB
 have hbd:=bG w2
 rw[v2] at hbd
 generalize hA:val a=A at *
 generalize hBv:val b=B at *
 generalize hlb:lim B=bl at *
 rw[hm] at htop hbd
 rw[Nat.add_sub_cancel] at htop
 have hwt:=w2 m
 have hml:(bl.length:Int)-1=(m:Int):=om
 obtain⟨tp,htp⟩:∃x:Nat,bl.getD m 0=x:=⟨(bl.getD m 0).toNat,by omega⟩
 rw[htp] at htop hwt
 have htp0:tp≠0:=om
 have c1:=lk (n:=tp)
 have c2:=j0 htp0
 have c3:=lm (x:=tp) om
 have c4:bv tp≠0:=by unfold bv;rw[if_neg htp0];omega
 have hPm:=dv m
 refine⟨λy=>∃s:Nat,y=s/\s<=32-bv tp,λy=>32-y.toNat,⟨0,rfl,by omega⟩,?_⟩
 rintro _ ⟨s,rfl,hs⟩
 have hps:=dM s
 have hsle:(2:Int)^(bv tp)*2^s<=4294967296:=by
  have e1:(2:Int)^(bv tp+s)*2^(32-(bv tp+s))=4294967296:=gp (c:=32) om
  rw[<-Int.pow_add]
  have:=dM (32-(bv tp+s))
  have h3:=dM (bv tp+s)
  have:(2:Int)^(bv tp+s)*1<=2^(bv tp+s)*2^(32-(bv tp+s)):=Int.mul_le_mul_of_nonneg_left om om
  omega
 have f1:(tp:Int)+1<=2^(bv tp):=by exact_mod_cast c1
 have g1:((tp:Int)+1)*2^s<=2^(bv tp)*2^s:=Int.mul_le_mul_of_nonneg_right f1 om
 have g1':((tp:Int)+1)*2^s=tp*2^s+2^s:=by rw[Int.add_mul];omega
 have ht0:0<=(tp:Int)*2^s:=Int.mul_nonneg om om
 have hw32:(tp:Int)*2^s % 4294967296=tp*2^s:=Int.emod_eq_of_lt ht0 om
 rw[hml,eu,htp,Int.toNat_natCast,wrap_u32,hw32,xF ht0 om]
 have hs31:s<=31:=om
 have hr1:rng ((s:Int)+1):=w9 hs31
 have hr2:32-((s:Int)+1).toNat<32-((s:Int)).toNat:=xB hs31
 refine⟨by unfold rng;omega,⟨by omega,by omega⟩,⟨by omega,by omega⟩,ce (λhe=>⟨hr1,⟨s+1,rfl,?_⟩,hr2⟩) (λhe=>?_)⟩
 ·
  have hlt:(tp:Int)*2^s<2147483648:=by
   rcases Int.lt_or_le ((tp:Int)*2^s) 2147483648 with hh | hh
   ·exact hh
   ·rw[if_neg om] at he;cases he
  rcases Nat.lt_or_ge s (32-bv tp) with hh | hh
  ·omega
  ·exfalso
   have hse:s=32-bv tp:=om
   have e2:(2:Int)^(bv tp-1)*2^s=2147483648:=gp (c:=31) om
   have f2:(2:Int)^(bv tp-1)<=tp:=by exact_mod_cast c2
   have g2:(2:Int)^(bv tp-1)*2^s<=tp*2^s:=Int.mul_le_mul_of_nonneg_right f2 om
   omega
 have hge31:2147483648<=(tp:Int)*2^s:=by
  rcases Int.lt_or_le ((tp:Int)*2^s) 2147483648 with hh | hh
  ·rw[if_pos hh] at he;exact absurd rfl he
  ·exact hh
 clear he
 refine o5 ha om om (o5 w2 om om ?_)
 rw[hA,v2]
 obtain⟨A2,hA2⟩:∃A2,A2=A*2^s:=⟨_,rfl⟩
 obtain⟨B2,hB2⟩:∃B2,B2=B*2^s:=⟨_,rfl⟩
 rw[<-hA2,<-hB2]
 have hB2i:(B2:Int)=(B:Int)*2^s:=by rw[hB2];simp
 have hbm:=bc w2 m
 have hbd2:(B:Int)=pv bl m+tp*4294967296^m:=by rw[hbd,pv,htp]
 have ew1:(4294967296:Int)^(m+1)=4294967296^m*4294967296:=Int.pow_succ ..
 have hB2lt:(B2:Int)<4294967296^(m+1):=by
  have k1:(B:Int)+1<=(tp+1)*4294967296^m:=by rw[Int.add_mul];omega
  have k2:((B:Int)+1)*2^s<=((tp+1)*4294967296^m)*2^s:=Int.mul_le_mul_of_nonneg_right k1 om
  have k4:(((tp:Int)+1)*2^s)*4294967296^m<=4294967296*4294967296^m:=Int.mul_le_mul_of_nonneg_right om om
  rw[Int.mul_right_comm] at k2
  rw[Int.add_mul] at k2
  rw[hB2i,ew1]
  omega
 have hB2ge:2147483648*4294967296^m<=(B2:Int):=by
  have k1:(tp:Int)*4294967296^m<=B:=om
  have k2:(tp:Int)*4294967296^m*2^s<=B*2^s:=Int.mul_le_mul_of_nonneg_right k1 om
  have k3:2147483648*4294967296^m<=(tp:Int)*2^s*4294967296^m:=Int.mul_le_mul_of_nonneg_right hge31 om
  rw[Int.mul_right_comm] at k2
  omega
 have hB20:0<B2:=om
 have hB2N:B2<4294967296^(m+1):=by
  have:((4294967296^(m+1):Nat):Int)=(4294967296:Int)^(m+1):=by simp
  omega
 have wA:=aq A2
 have vA:=aB A2
 have wB:=aq B2
 have hlB:(lim B2).length<=m+1:=fz hB2N
 have hLA:(lim A2).length<=1099511627762:=by
  have k1:A<4294967296^a.length:=by rw[<-hA];exact lR ha
  have k2:A*2^s<4294967296^(a.length+1):=by
   rw[Nat.pow_succ]
   have k3:2^s<=2^32:=Nat.pow_le_pow_right om om
   exact Nat.mul_lt_mul_of_lt_of_le k1 k3 om
  rw[hA2]
  have:=fz k2
  omega
 have hBtop:=qo hB2N
 generalize hlA2:lim A2=al at *
 generalize hlB2:lim B2=bl2 at *
 obtain⟨L,hL⟩:∃L,al.length=L:=⟨_,rfl⟩
 have hApv:(A2:Int)=pv al L:=by rw[<-vA,<-hL];exact bG wA
 obtain⟨r0,hr0⟩:∃r0,r0=[]++f8 al (max 0 ((al.length:Int)-(bl.length:Int)+1)) (al.length:Int):=⟨_,rfl⟩
 obtain⟨J,hJ⟩:∃J,J=L-m:=⟨_,rfl⟩
 have hr0d:r0=al.drop J:=by
  rw[hr0]
  show []++(al.drop _).take _=_
  have e:(max 0 ((al.length:Int)-(bl.length:Int)+1)).toNat=J:=om
  rw[e,List.nil_append,Int.toNat_natCast]
  exact List.take_of_length_le (by simp)
 rw[<-hr0]
 refine⟨mK om om,by unfold rng;omega,by unfold rng;omega,⟨by omega,by omega,by omega⟩,?_,by unfold rng;omega,?_⟩
 ·rw[hr0d];simp;omega
 have hr0w:Words r0:=by rw[hr0d];exact wA.drop J
 have hr0l:r0.length=L-J:=by rw[hr0d,List.length_drop,hL]
 have hsplit:(A2:Int)=pv al J+val r0*4294967296^J:=by
  have k0:L=J+(L-J):=om
  rw[hApv,k0,jC,bG hr0w,hr0l,hr0d]
 have hr0B:val r0<B2:=by
  have k1:=lR hr0w
  have k2:4294967296^r0.length<=4294967296^m:=Nat.pow_le_pow_right om om
  have k3:((4294967296^m:Nat):Int)=(4294967296:Int)^m:=by simp
  omega
 refine⟨λy=>∃j:Nat,(y.2.1=(j:Int)-1\/(j=0/\y.2.1<0))/\j<=L/\Words y.1/\y.1.length<=m+1/\val y.1<B2/\y.2.2.length=L/\Words y.2.2/\(∀k,k<j->y.2.2.getD k 0=0)/\(A2:Int)=pv y.2.2 L*B2+val y.1*4294967296^j+pv al j,
  λy=>(y.2.1+1).toNat,⟨J,?_,by omega,hr0w,by show r0.length<=_;omega,hr0B,by simp[fh,hL],Words.rep _,λk hk=>?_,?_⟩,?_⟩
 ·show(al.length:Int)-(bl.length:Int)=(J:Int)-1\/J=0/\(al.length:Int)-(bl.length:Int)<0
  rcases Nat.lt_or_ge L (m+1) with hh | hh
  ·right;omega
  ·left;omega
 ·show(List.replicate ((al.length:Int)).toNat (0:Int)).getD k 0=0
  rw[List.getD_eq_getElem?_getD,List.getElem?_replicate];split<;>rfl
 ·show(A2:Int)=pv (List.replicate ((al.length:Int)).toNat (0:Int)) L*B2+val r0*4294967296^J+pv al J
  rw[lX];omega
 clear hsplit hr0B hr0w hr0l hr0 hr0d
 clear r0
 rintro⟨r,x,q⟩ ⟨j,hx,hj,hrw,hrl,hrB,hql,hqw,hqz,hsum⟩
 simp only at hx hj hrw hrl hrB hql hqw hqz hsum
 refine condT (λhc=>?_) (λhc=>?_)
 ·obtain⟨i,rfl⟩:∃i,j=i+1:=⟨j-1,by omega⟩
  obtain rfl:x=(i:Int):=om
  have hai:=wA i
  rw[eu]
  have hw1:Words ([al.getD i 0]++r):=(Words.one hai.1 hai.2).append hrw
  refine⟨⟨by omega,by omega⟩,by simp;omega,cN hw1 (by simp[SM];omega) ?_⟩
  obtain⟨R,hRd⟩:∃R,R=val ([al.getD i 0]++r):=⟨_,rfl⟩
  rw[<-hRd]
  have hRv:(R:Int)=al.getD i 0+4294967296*val r:=by
   rw[hRd]
   have:val ([al.getD i 0]++r)=(al.getD i 0).toNat+4294967296*val r:=gK hw1
   rw[this];omega
  have hRB:R<B2*4294967296:=om
  have hRn:R<4294967296^(m+2):=by
   have k1:B2*4294967296<4294967296^(m+1)*4294967296:=Nat.mul_lt_mul_of_pos_right hB2N om
   have k2:4294967296^(m+2)=4294967296^(m+1)*4294967296:=Nat.pow_succ ..
   omega
  have hRp:=qo hRn
  have wR:=aq R
  have hlR:(lim R).length<=m+2:=fz hRn
  have vR:=aB R
  have hmb:(bl.length:Int)=((m+1:Nat):Int):=om
  rw[hmb]
  refine bP wR ⟨by unfold rng;omega,bP wR ⟨by unfold rng;omega,bP wB ?_⟩⟩
  have h1:=wR (m+1)
  have h2:=wR m
  have h3:=wB m
  have hBt:(B2:Int)=pv bl2 m+bl2.getD m 0*4294967296^m:=by rw[hBtop,pv]
  have hb2m:=bc wB m
  have hr4:0<bl2.getD m 0:=by
   rcases Int.lt_or_le 0 (bl2.getD m 0) with hh | hh
   ·exact hh
   ·have:bl2.getD m 0=0:=om
    rw[this] at hBt;omega
  have e32:(2:Int)^Int.toNat 32=4294967296:=rfl
  rw[e32,wrap_u64_id (m:=(lim R).getD (m+1) 0*4294967296) om om,pm 32 h2.1 h2.2 om (by show _ % 4294967296=0;omega) om]
  generalize hhead:(lim R).getD (m+1) 0*4294967296+(lim R).getD m 0=head
  have hhead0:0<=head:=om
  have hq0:0<=head / bl2.getD m 0:=Int.ediv_nonneg hhead0 om
  have hq1:head / bl2.getD m 0<=head:=Int.ediv_le_self _ hhead0
  rw[Int.tdiv_eq_ediv_of_nonneg hhead0,wrap_u64_id hq0 om]
  refine⟨by omega,fH ?_⟩
  obtain⟨g0,hg0⟩:∃g0:Nat,min (head / bl2.getD m 0) 4294967295=(g0:Int):=⟨(min (head / bl2.getD m 0) 4294967295).toNat,by omega⟩
  have hg0W:g0<4294967296:=om
  have hU:R<(g0+1)*B2:=by
   by_cases hcase:head / bl2.getD m 0<=4294967295
   ·have hge:head / bl2.getD m 0=g0:=om
    have k1:head<((g0:Int)+1)*bl2.getD m 0:=by
     have d1:head=bl2.getD m 0*(head / bl2.getD m 0)+head % bl2.getD m 0:=(Int.mul_ediv_add_emod head _).symm
     have d2:head % bl2.getD m 0<bl2.getD m 0:=Int.emod_lt_of_pos _ hr4
     rw[hge] at d1
     rw[Int.add_mul,Int.mul_comm];omega
    have k2:(head+1)*4294967296^m<=(((g0:Int)+1)*bl2.getD m 0)*4294967296^m:=Int.mul_le_mul_of_nonneg_right om om
    have k3:(R:Int)=pv (lim R) m+head*4294967296^m:=by
     rw[hRp,pv,pv,ew1,<-hhead,Int.add_mul,Int.mul_assoc ((lim R).getD (m+1) 0),Int.mul_comm 4294967296];omega
    have k4:=(bc wR m).2
    have k5:((g0:Int)+1)*B2=((g0:Int)+1)*pv bl2 m+(((g0:Int)+1)*bl2.getD m 0)*4294967296^m:=by rw[hBt,Int.mul_add,Int.mul_assoc]
    have k6:0<=((g0:Int)+1)*pv bl2 m:=Int.mul_nonneg om hb2m.1
    have k7:(((g0+1)*B2:Nat):Int)=((g0:Int)+1)*B2:=by simp
    rw[Int.add_mul] at k2
    omega
   ·have:g0=4294967295:=om
    subst this
    omega
  rw[hg0,wrap_u32]
  have hg0m:(g0:Int) % 4294967296=g0:=om
  rw[hg0m]
  refine dX wB (Words.one om om) (by simp;omega) ?_
  have vB:val bl2=B2:=by rw[<-hlB2];exact aB B2
  rw[ub hg0W,vB]
  refine⟨λy=>∃g:Nat,y=((g:Int),lim (B2*g))/\g<4294967296/\R<(g+1)*B2,λy=>y.1.toNat,⟨g0,rfl,hg0W,hU⟩,?_⟩
  rintro _ ⟨g,rfl,hgW,hgU⟩
  have wP:=aq (B2*g)
  have vP:=aB (B2*g)
  have hPl:(lim (B2*g)).length<=m+2:=by
   refine fz ?_
   rw[Nat.pow_succ]
   exact Nat.mul_lt_mul_of_lt_of_le hB2N om om
  refine kA wP wR (by unfold SM;omega) (by unfold SM;omega) ?_
  rw[vP,vR]
  refine condT (λhgt=>?_) (λhle=>?_)
  ·have hgt':=rt.1 hgt
   have hg1:1<=g:=by
    rcases Nat.eq_zero_or_pos g with hh | hh
    ·subst hh;simp at hgt'
    ·exact hh
   have hmul:B2*(g-1)=B2*g-B2:=by rw[Nat.mul_sub,Nat.mul_one]
   have hBle:B2<=B2*g:=Nat.le_mul_of_pos_right _ hg1
   refine i9 wP wB (by unfold SM;omega) (by unfold SM;omega) (λhh=>?_) (λ_=>?_)
   ·rw[vP,vB] at hh;omega
   ·rw[vP,vB,wrap_u64_id (m:=(g:Int)-1) om om,<-hmul]
    refine⟨⟨g-1,?_,by omega,?_⟩,by dsimp only;omega⟩
    ·have:(g:Int)-1=((g-1:Nat):Int):=om
     rw[this]
    ·have:g-1+1=g:=om
     rw[this,Nat.mul_comm];exact hgt'
  ·have hle':B2*g<=R:=by
    rcases Nat.lt_or_ge R (B2*g) with hh | hh
    ·exact absurd (rt.2 hh) hle
    ·exact hh
   refine i9 wR wP (by unfold SM;omega) (by unfold SM;omega) (λhh=>?_) (λ_=>?_)
   ·rw[vP,vR] at hh;omega
   ·rw[vP,vR,wrap_u32,d4]
    have hgm:(g:Int) % 4294967296=g:=om
    rw[hgm]
    have hRlt:R-B2*g<B2:=by rw[Nat.add_mul,Nat.mul_comm g] at hgU;omega
    have hqil:i<q.length:=om
    refine⟨⟨by omega,by omega⟩,by unfold rng;omega,⟨i,.inl rfl,by omega,aq _,?_,?_,by simp[hql],hqw.set _ om om,λk hk=>?_,?_⟩,by dsimp only;omega⟩
    ·show(lim (R-B2*g)).length<=m+1
     exact fz om
    ·show val (lim (R-B2*g))<B2
     rw[aB];exact hRlt
    ·show(q.set i _).getD k 0=0
     rw[bL om];exact hqz k om
    ·show(A2:Int)=pv (q.set i (g:Int)) L*B2+val (lim (R-B2*g))*4294967296^i+pv al i
     rw[aB,eI hqil L om,hqz i om,Int.sub_zero,hsum,Int.add_mul,pv,Int.pow_succ]
     have k1:((R-B2*g:Nat):Int)=(R:Int)-B2*g:=by rw[Int.natCast_sub hle'];simp
     have k2:((R:Int)-B2*g)*4294967296^i=R*4294967296^i-g*4294967296^i*B2:=by
      generalize (4294967296:Int)^i=z
      grind
     have k3:(R:Int)*4294967296^i=al.getD i 0*4294967296^i+val r*(4294967296^i*4294967296):=by
      rw[hRv,Int.add_mul,Int.mul_comm 4294967296 (val r:Int),Int.mul_assoc,Int.mul_comm 4294967296]
     rw[k1,k2,k3]
     omega
 ·obtain rfl:j=0:=om
  have hq1:=bG hqw
  rw[hql] at hq1
  simp only[pv,Int.pow_zero,Int.mul_one,Int.add_zero] at hsum
  rw[<-hq1] at hsum
  have hsumN:A2=val q*B2+val r:=by
   have:((A2:Nat):Int)=((val q*B2+val r:Nat):Int):=by rw[Int.natCast_add,Int.natCast_mul];exact hsum
   omega
  have hps':0<2^s:=Nat.pow_pos om
  have hdiv:A / B=val q:=by
   have k1:A*2^s / (B*2^s)=A / B:=Nat.mul_div_mul_right _ _ hps'
   rw[<-k1,<-hA2,<-hB2,hsumN,Nat.add_comm,Nat.add_mul_div_right _ _ hB20,Nat.div_eq_of_lt hrB];omega
  have hmod:A % B=val r / 2^s:=by
   have k1:A*2^s % (B*2^s)=A % B*2^s:=Nat.mul_mod_mul_right _ _ _
   rw[<-hA2,<-hB2,hsumN,Nat.add_comm,Nat.add_mul_mod_self_right,Nat.mod_eq_of_lt hrB] at k1
   rw[k1,Nat.mul_div_cancel _ hps']
  refine cN hqw (by unfold SM;omega) (q9 hrw (by unfold SM;omega) om ?_)
  rw[<-hmod,<-hdiv]
  exact h
theorem nU {a b:List Int} {Q:List Int->Prop} (ha:Words a) (hb:Words b) (la:a.length<=1099511627760) (lb:b.length<=1099511627760) (h:Q (lim (Nat.gcd (val a) (val b)))):i_ a b Q:=by
 refine cN ha (by unfold SM;omega) (cN hb (by unfold SM;omega) ?_)
 have b1:=cK ha
 have b2:=cK hb
 refine⟨λy=>∃m n:Nat,y=(lim m,lim n)/\(lim m).length<=1099511627760/\(lim n).length<=1099511627760/\Nat.gcd m n=Nat.gcd (val a) (val b),λy=>val y.2,⟨_,_,rfl,by omega,by omega,rfl⟩,?_⟩
 rintro _ ⟨m,n,rfl,hm,hn,hg⟩
 refine condT (λhc=>?_) (λhc=>?_)
 ·have hn0:n≠0:=by rintro rfl;rw[cB] at hc;simp at hc
  refine kz (aq m) (aq n) hm hn (λh0=>absurd (by rw[aB] at h0;exact h0) hn0) (λ_=>?_)
  rw[aB,aB]
  have hlt:=Nat.mod_lt m (Nat.pos_of_ne_zero hn0)
  refine⟨⟨n,m % n,rfl,hn,Nat.le_trans (b8 (Nat.le_of_lt hlt)) hn,?_⟩,?_⟩
  ·rw[<-hg,Nat.gcd_comm n,<-Nat.gcd_rec,Nat.gcd_comm]
  ·show val (lim (m % n))<val (lim n)
   rw[aB,aB];exact hlt
 ·have hn0:n=0:=by
   rcases Nat.eq_zero_or_pos n with h0 | h0
   ·exact h0
   ·rw[d7 h0] at hc;simp at hc
  subst hn0
  rw[Nat.gcd_zero_right] at hg
  rw[<-hg] at h
  exact h
end Go.Gg
namespace Go.Gg
theorem iq {σ:Type} {n:Nat} (J:Nat->σ->Prop) (ix:σ->Int) (c:Int) (hix:∀i y,J i y->ix y=i+c) {x0:σ} {body:σ->(σ->Prop)->Prop} (h0:J 0 x0)
  (hs:∀i y (next:σ->Prop),i<n->J i y->(∀z,J (i+1) z->next z)->body y next) (he:∀y (next:σ->Prop),J n y->body y next):bd x0 body:=by
 refine⟨λy=>∃i,i<=n/\J i y,λy=>n-(ix y-c).toNat,⟨0,Nat.zero_le _,h0⟩,?_⟩
 rintro y ⟨i,hi,hJ⟩
 rcases Nat.lt_or_ge i n with h | h
 ·refine hs i y _ h hJ λz hz=>⟨⟨i+1,h,hz⟩,?_⟩
  have h1:=hix i y hJ
  have h2:=hix (i+1) z hz
  dsimp only
  rw[h1,h2]
  omega
 ·obtain rfl:i=n:=om
  exact he y _ hJ
theorem d6 {σ:Type} {n:Nat} (f:Nat->σ) (ix:σ->Int) (c:Int) (hix:∀i,ix (f i)=i+c) {x0:σ} {body:σ->(σ->Prop)->Prop} (h0:x0=f 0)
  (hs:∀i (next:σ->Prop),i<n->next (f (i+1))->body (f i) next) (he:∀(next:σ->Prop),body (f n) next):bd x0 body:=
 iq (λi y=>y=f i) ix c (λi y h=>by rw[h];exact hix i) h0 (λi y next hi hy hn=>hy▸hs i next hi (hn _ rfl)) (λy next hy=>hy▸he next)
theorem i8 {n:Nat} (P:Nat->Prop) {E:Prop} {st:Int->(Int->Prop)->Prop} (hn:n<=9223372036854775807)
  (hs:∀(i:Nat) (next:Int->Prop),i<n->(∀j,j<i->¬P j)->(¬P i->rng ((i:Int)+1)/\next ((i:Int)+1))->st (i:Int) next)
  (he:(∀j,j<n->¬P j)->E):bd (σ:=Int) 0 (λx next=>aj (decide (x<(n:Int))) (st x next) E):=by
 refine iq (n:=n) (λi y=>y=(i:Int)/\∀j,j<i->¬P j) (λy=>y) 0 (λi y h=>by rw[h.1,Int.add_zero]) ⟨rfl,λj hj=>absurd hj om⟩ ?_ ?_
 ·rintro i _ next hi ⟨rfl,hI⟩ hn2
  refine condT (λhc=>hs i next hi hI λhP=>⟨by unfold rng;omega,hn2 _ ⟨by omega,λj hj=>?_⟩⟩) (λhc=>absurd (show(i:Int)<n by omega) hc)
  rcases Nat.lt_or_ge j i with h1 | h1
  ·exact hI j h1
  ·obtain rfl:j=i:=om
   exact hP
 ·rintro _ next ⟨rfl,hI⟩
  exact condT (λhc=>absurd hc om) (λ_=>he hI)
def h9 (g:Nat->Int):Nat->Int
 | 0=>0
 | n+1=>if h9 g n=0 then g n else h9 g n
theorem cr {g:Nat->Int}:∀ {n:Nat},h9 g n=0↔∀i,i<n->g i=0
 | 0=>⟨λ_ i hi=>absurd hi om,λ_=>rfl⟩
 | n+1=>by
  rw[h9]
  constructor
  ·intro h i hi
   split at h
   ·rename_i h1
    rcases Nat.lt_or_ge i n with h2 | h2
    ·exact cr.1 h1 i h2
    ·obtain rfl:i=n:=om
     exact h
   ·rename_i h1;exact absurd h h1
  ·intro h
   rw[if_pos (cr.2 λi hi=>h i om)]
   exact h n om
theorem eN {g:Nat->Int} {i:Nat} (h:∀j,j<i->g j=0) (hg:g i≠0):∀n,i<n->h9 g n=g i
 | 0,hn=>absurd hn om
 | n+1,hn=>by
  rw[h9]
  rcases Nat.lt_or_ge i n with h1 | h1
  ·rw[eN h hg n h1,if_neg hg]
  ·obtain rfl:i=n:=om
   rw[if_pos (cr.2 h)]
end Go.Gg
namespace Go.Gg
def sgn (neg:Bool) (n:Nat):Int:=if neg then -(n:Int) else n
def aO (q:Rat):GRat:=if q.num=0 then ⟨false,[],[]⟩ else ⟨decide (q.num<0),lim q.num.natAbs,lim q.den⟩
def sj (a:GRat):Rat:=mkRat (sgn a.Neg (val a.Num)) (val a.Den)
def eqR (a b:GRat):Bool:=a.Neg == b.Neg && a.Num == b.Num && a.Den == b.Den
def okR (a:GRat):Bool:=eqR a (aO (sj a))
def a_ (a:GRat):Rat:=if okR a then sj a else 0
theorem mQ {a b:GRat}:eqR a b=true↔a=b:=by
 cases a;cases b
 simp[eqR,and_assoc]
theorem lU {n:Int}:sgn (decide (n<0)) n.natAbs=n:=by
 unfold sgn
 by_cases h:n<0
 ·simp only[h,decide_true,if_true];omega
 ·simp only[h,decide_false,Bool.false_eq_true,if_false];omega
theorem o8 (q:Rat):sj (aO q)=q:=by
 unfold aO
 by_cases h:q.num=0
 ·rw[if_pos h]
  have:q=0:=Rat.num_eq_zero.1 h
  subst this
  simp[sj,sgn,jN]
 ·rw[if_neg h]
  simp only[sj]
  rw[aB,aB,lU,Rat.mkRat_self]
theorem qy (q:Rat):okR (aO q)=true:=by
 unfold okR
 rw[o8]
 exact mQ.2 rfl
theorem cy (q:Rat):a_ (aO q)=q:=by rw[a_,qy,if_pos rfl,o8]
theorem no {a:GRat} (h:okR a=true):a=aO (a_ a):=by
 have:=mQ.1 h
 rw[a_,h,if_pos rfl]
 exact this
def eJ (l:List Int):Bool:=decide (0<l.length) && (l.getD (l.length-1) 0 != 0)
theorem qw {n:Nat} (h:n≠0):eJ (lim n)=true:=by
 have h1:=rj h
 have h2:(lim n).length≠0:=by rw[d7 om];simp
 simp only[eJ,Bool.and_eq_true,decide_eq_true_eq,bne_iff_ne]
 exact⟨by omega,h1⟩
theorem k9 {l:List Int} (hw:Words l) (h:eJ l=true):lim (val l)=l/\val l≠0:=by
 simp only[eJ,Bool.and_eq_true,decide_eq_true_eq,bne_iff_ne] at h
 have h1:=ua hw (λ_=>h.2)
 refine⟨h1,λh0=>?_⟩
 rw[h0,cB] at h1
 rw[<-h1] at h
 simp at h
theorem w8 {b:Bool} {n:Nat} (h:n≠0):decide (sgn b n<0)=b:=by
 cases b
 ·simp[sgn]
 ·simp[sgn];omega
theorem mj {b:Bool} {n:Nat}:(sgn b n).natAbs=n:=by cases b<;>simp[sgn]
theorem vL {b:Bool}:sgn b 0=0:=by cases b<;>rfl
theorem yd {b:Bool} {n:Nat} (h:n≠0):sgn b n≠0:=by
 intro h0
 have:=mj (b:=b) (n:=n)
 rw[h0] at this
 exact h (by simpa using this.symm)
theorem pe {b:Bool} {n d:Nat} (hn:n≠0) (hd:d≠0):aO (mkRat (sgn b n) d)=⟨b,lim (n / Nat.gcd n d),lim (d / Nat.gcd n d)⟩:=by
 have e1:(mkRat (sgn b n) d).num=sgn b (n / Nat.gcd n d):=by
  rw[Rat.num_mkRat,if_neg hd,mj,Nat.gcd_comm]
  cases b
  ·simp[sgn]
  ·simp only[sgn,if_true]
   have:((Nat.gcd n d:Nat):Int) ∣ (n:Int):=Int.natCast_dvd_natCast.2 (Nat.gcd_dvd_left n d)
   rw[Int.neg_ediv_of_dvd this]
   simp
 have e2:(mkRat (sgn b n) d).den=d / Nat.gcd n d:=by rw[Rat.den_mkRat,if_neg hd,mj,Nat.gcd_comm]
 have hg:0<n / Nat.gcd n d:=Nat.div_pos (Nat.le_of_dvd om (Nat.gcd_dvd_left n d)) (Nat.gcd_pos_of_pos_left _ om)
 unfold aO
 rw[e1,e2,if_neg (yd om),w8 om,mj]
theorem nk {b:Bool} {d:Nat}:aO (mkRat (sgn b 0) d)=⟨false,[],[]⟩:=by rw[vL,Rat.zero_mkRat];rfl
theorem t5 {a:GRat} (hn:Words a.Num) (hd:Words a.Den) :
  okR a=if a.Num.length=0/\a.Den.length=0 then !a.Neg else eJ a.Num && (eJ a.Den && decide (Nat.gcd (val a.Num) (val a.Den)=1)):=by
 obtain⟨b,n,d⟩:=a
 simp only at hn hd ⊢
 by_cases h:n.length=0/\d.length=0
 ·rw[if_pos h]
  obtain rfl:=List.eq_nil_of_length_eq_zero h.1
  obtain rfl:=List.eq_nil_of_length_eq_zero h.2
  simp only[okR,sj,jN,nk]
  cases b<;>rfl
 ·rw[if_neg h]
  cases hp:eJ n with
  | false=>
   rw[Bool.false_and]
   cases ho:okR ⟨b,n,d⟩ with
   | false=>rfl
   | true=>
    exfalso
    have e:=no ho
    unfold aO at e
    split at e
    ·cases e;exact h ⟨rfl,rfl⟩
    ·rename_i hz
     injection e with e1 e2 e3
     rw[e2,qw om] at hp
     cases hp
  | true=>
  rw[Bool.true_and]
  cases hq:eJ d with
  | false=>
   rw[Bool.false_and]
   cases ho:okR ⟨b,n,d⟩ with
   | false=>rfl
   | true=>
    exfalso
    have e:=no ho
    unfold aO at e
    split at e
    ·cases e;exact h ⟨rfl,rfl⟩
    ·rename_i hz
     injection e with e1 e2 e3
     rw[e3,qw (Rat.den_nz _)] at hq
     cases hq
  | true=>
  rw[Bool.true_and]
  obtain⟨n1,n2⟩:=k9 hn hp
  obtain⟨d1,d2⟩:=k9 hd hq
  have hm:aO (sj ⟨b,n,d⟩)=⟨b,lim (val n / Nat.gcd (val n) (val d)),lim (val d / Nat.gcd (val n) (val d))⟩:=pe n2 d2
  by_cases hg:Nat.gcd (val n) (val d)=1
  ·rw[hg] at hm
   simp only[hg,decide_true]
   rw[okR]
   refine mQ.2 ?_
   rw[hm,Nat.div_one,Nat.div_one,n1,d1]
  ·simp only[hg,decide_false]
   cases ho:okR ⟨b,n,d⟩ with
   | false=>rfl
   | true=>
    exfalso
    have e:=mQ.1 ho
    rw[hm] at e
    injection e with e1 e2 e3
    have e4:val n=val n / Nat.gcd (val n) (val d):=by
     have:=congrArg val e2
     rwa[aB] at this
    have hgp:0<Nat.gcd (val n) (val d):=Nat.gcd_pos_of_pos_left _ om
    have:=Nat.div_lt_self (n:=val n) om (show 1<Nat.gcd (val n) (val d) by omega)
    omega
def RB (k:Nat) (q:Rat):Prop:=q.num.natAbs<2^k/\q.den<2^k
theorem RB.mono {k l:Nat} {q:Rat} (h:RB k q) (hkl:k<=l):RB l q:=
 ⟨Nat.lt_of_lt_of_le h.1 (Nat.pow_le_pow_right om hkl),Nat.lt_of_lt_of_le h.2 (Nat.pow_le_pow_right om hkl)⟩
theorem d8 {n k:Nat} (h:n<2^k):(lim n).length<=k / 32+1:=by
 refine fz (Nat.lt_of_lt_of_le h ?_)
 have:(4294967296:Nat)^(k / 32+1)=2^(32*(k / 32+1)):=by rw[Nat.pow_mul]
 rw[this]
 exact Nat.pow_le_pow_right om om
theorem rA (k:Nat) (hk:1<=k):RB k 0:=⟨by simp;exact Nat.pow_pos om,by
 have:2^1<=2^k:=Nat.pow_le_pow_right om hk
 simp;omega⟩
theorem dc {m n k l:Nat} (h:m<2^k) (h':n<2^l):m*n<2^(k+l):=by
 rw[Nat.pow_add]
 exact Nat.mul_lt_mul'' h h'
theorem pR {n:Int} {d k:Nat} (hd:d≠0) (hn:n.natAbs<2^k) (hdk:d<2^k):RB k (mkRat n d):=by
 refine⟨?_,?_⟩
 ·rw[Rat.num_mkRat,if_neg hd]
  refine Nat.lt_of_le_of_lt ?_ hn
  exact Int.natAbs_ediv_le_natAbs _ _
 ·rw[Rat.den_mkRat,if_neg hd]
  exact Nat.lt_of_le_of_lt (Nat.div_le_self _ _) hdk
theorem kS {k l:Nat} {p q:Rat} (hp:RB k p) (hq:RB l q):RB (k+l) (p*q):=by
 rw[Rat.mul_def']
 refine pR (Nat.mul_ne_zero p.den_nz q.den_nz) ?_ (dc hp.2 hq.2)
 rw[Int.natAbs_mul]
 exact dc hp.1 hq.1
theorem yC {k l:Nat} {p q:Rat} (hp:RB k p) (hq:RB l q):RB (k+l+1) (p+q):=by
 rw[Rat.add_def']
 refine pR (Nat.mul_ne_zero p.den_nz q.den_nz) ?_ (Nat.lt_of_lt_of_le (dc hp.2 hq.2) (Nat.pow_le_pow_right om om))
 have h1:(p.num*q.den).natAbs<2^(k+l):=by rw[Int.natAbs_mul];exact dc hp.1 (by simpa using hq.2)
 have h2:(q.num*p.den).natAbs<2^(k+l):=by rw[Int.natAbs_mul,Nat.add_comm k l];exact dc hq.1 (by simpa using hp.2)
 have h3:=Int.natAbs_add_le (p.num*q.den) (q.num*p.den)
 rw[Nat.pow_succ]
 omega
theorem pQ {k:Nat} {p:Rat} (hp:RB k p):RB k (-p):=⟨by simpa using hp.1,hp.2⟩
theorem yB {k:Nat} {p:Rat} (hp:RB k p):RB k p⁻¹:=by
 by_cases h0:p.num=0
 ·have:p=0:=Rat.num_eq_zero.1 h0
  subst this
  simpa using hp
 ·refine⟨?_,?_⟩
  ·rw[Rat.num_inv,Int.natAbs_mul,Int.natAbs_sign_of_ne_zero h0,Nat.one_mul];simpa using hp.2
  ·rw[Rat.den_inv,if_neg h0];exact hp.1
theorem mc {k l:Nat} {p q:Rat} (hp:RB k p) (hq:RB l q):RB (k+l) (p / q):=by rw[Rat.div_def];exact kS hp (yB hq)
theorem i3 {k l:Nat} {p q:Rat} (hp:RB k p) (hq:RB l q):RB (k+l+1) (p-q):=by rw[Rat.sub_eq_add_neg];exact yC hp (pQ hq)
theorem wL {k:Nat} {n:Int} (hk:1<=k) (h:n.natAbs<2^k):RB k (n:Rat):=⟨h,by
 have:2^1<=2^k:=Nat.pow_le_pow_right om hk
 show 1<2^k
 omega⟩
theorem xI {a:GRat} {m:Nat} (hn:Words a.Num) (hd:Words a.Den) (h1:a.Num.length<=m) (h2:a.Den.length<=m):RB (32*m+1) (a_ a):=by
 unfold a_
 split
 ·unfold sj
  by_cases hd0:val a.Den=0
  ·rw[hd0,Rat.mkRat_zero];exact rA _ om
  ·have e:∀l:List Int,Words l->l.length<=m->val l<2^(32*m+1):=λl hw hl=>by
    have k1:=lR hw
    have k2:(4294967296:Nat)^l.length<=4294967296^m:=Nat.pow_le_pow_right om hl
    have k3:(4294967296:Nat)^m=2^(32*m):=by rw[Nat.pow_mul]
    have k4:2^(32*m)<=2^(32*m+1):=Nat.pow_le_pow_right om om
    omega
   exact pR hd0 (by rw[mj];exact e _ hn h1) (e _ hd h2)
 ·exact rA _ om
end Go.Gg
namespace Go.Gg
def Fr (a:GRat):Prop:=Words a.Num/\Words a.Den/\a.Num.length<=1099511627760/\a.Den.length<=1099511627760
theorem kT {q:Rat} {k:Nat} (h:RB k q) (hk:k<=35184372088000):Fr (aO q):=by
 unfold aO
 split
 ·exact⟨Words.nil,Words.nil,by simp,by simp⟩
 ·have h1:=d8 h.1
  have h2:=d8 h.2
  exact⟨aq _,aq _,by dsimp only;omega,by dsimp only;omega⟩
theorem d9 {n:Nat}:((lim n).length:Int)=0↔n=0:=by
 constructor
 ·intro h
  rcases Nat.eq_zero_or_pos n with h0 | h0
  ·exact h0
  ·rw[d7 h0] at h;simp at h;omega
 ·rintro rfl;rw[cB];rfl
theorem e7 {n:Nat}:(bv n:Int)=0↔n=0:=by
 unfold bv
 split<;>omega
theorem tW {b:Bool} {m n:Nat}:sgn b (m*n)=sgn b m*(n:Int):=by
 cases b<;>simp[sgn,Int.natCast_mul,Int.neg_mul]
theorem rW {b c:Bool} {m n:Nat}:sgn (b != c) (m*n)=sgn b m*sgn c n:=by
 cases b<;>cases c<;>simp[sgn,Int.natCast_mul,Int.neg_mul,Int.mul_neg,Int.neg_neg]
theorem tX {b:Bool} {m n:Nat}:sgn b (m+n)=sgn b m+sgn b n:=by
 cases b<;>simp only[sgn,Bool.false_eq_true,if_false,if_true]<;>omega
theorem oB {b c:Bool} {m n:Nat} (hbc:¬b=c) (h:n<=m):sgn b (m-n)=sgn b m+sgn c n:=by
 cases b<;>cases c<;>first | exact absurd rfl hbc | (simp only[sgn,Bool.false_eq_true,if_false,if_true];omega)
theorem kq (q:Rat):sgn (decide (q.num<0)) q.num.natAbs=q.num:=lU
theorem qP:val [1]=1:=ub (g:=1) om
theorem xP:lim 1=[1]:=by rw[d7 om];simp[cB]
theorem qN:Words [1]:=Words.one om om
theorem cV {neg:Bool} {num den:List Int} {Q:GRat->Prop} (hn:Words num) (hd:Words den) (ln:num.length<=1099511627760) (ld:den.length<=1099511627760)
  (h0:val den≠0) (h:Q (aO (mkRat (sgn neg (val num)) (val den)))):bX neg num den Q:=by
 refine pu hn (by unfold SM;omega) (ce (λhc=>?_) (λhc=>?_))
 ·rw[e7] at hc
  rw[hc,nk] at h
  exact h
 ·have hn0:val num≠0:=λhh=>hc (e7.2 hh)
  rw[pe hn0 h0] at h
  have hgp:Nat.gcd (val num) (val den)≠0:=Nat.ne_of_gt (Nat.gcd_pos_of_pos_left _ om)
  refine lG hn hd om om ?_
  have hgl:(lim (Nat.gcd (val num) (val den))).length<=1099511627760:=by
   refine Nat.le_trans (b8 (Nat.gcd_le_left _ om)) (Nat.le_trans (cK hn) ln)
  refine js hn (aq _) om om (λhh=>absurd (by rwa[aB] at hh) hgp) (λ_=>?_)
  refine js hd (aq _) om om (λhh=>absurd (by rwa[aB] at hh) hgp) (λ_=>?_)
  rw[aB]
  exact h
theorem jz {a:List Int} {Q:Bool->Prop} (la:a.length<=1099511627776) (h:Q (eJ a)):eX a Q:=by
 refine condT (λhc=>⟨by unfold rng;omega,by omega,?_⟩) (λhc=>?_)
 ·have e:eJ a=(at' a ((a.length:Int)-1) != 0):=by
   have:(a.length:Int)-1=((a.length-1:Nat):Int):=om
   rw[this,eu]
   simp only[eJ]
   rw[decide_eq_true (by omega:0<a.length),Bool.true_and]
  rw[<-e];exact h
 ·have e:eJ a=false:=by
   simp only[eJ]
   rw[decide_eq_false (by omega:¬0<a.length),Bool.false_and]
  rw[e] at h;exact h
theorem bS {b:Bool} {p q:Prop} (h1:b=true->p) (h2:b=false->q):aj b p q:=⟨h1,h2⟩
theorem og {n:Nat} {Q:Int->Prop} (hl:(lim n).length<=1099511627776) (h:Q (jZ n 1)):cO (lim n) [1] Q:=by
 refine eo (aq _) qN (by unfold SM;omega) (by unfold SM;simp) ?_
 rw[aB,qP]
 exact h
theorem wy {m n:Nat}:(jZ m n == 0)=decide (m=n):=by
 unfold jZ
 split
 ·rw[decide_eq_false om];rfl
 ·split
  ·rename_i h;rw[decide_eq_true h];rfl
  ·rename_i h;rw[decide_eq_false h];rfl
theorem jA {a:GRat} {Q:Bool->Prop} (fa:Fr a) (h:Q (okR a)):eY a Q:=by
 obtain⟨hn,hd,ln,ld⟩:=fa
 rw[t5 hn hd] at h
 refine⟨λx=>x=decide (a.Num.length=0/\a.Den.length=0),?_,?_⟩
 ·refine ce (λhc=>?_) (λhc=>?_)
  ·by_cases hd0:a.Den.length=0
   ·rw[decide_eq_true ⟨by omega,hd0⟩];simp;exact List.eq_nil_of_length_eq_zero hd0
   ·rw[decide_eq_false om];simp;intro hh;exact hd0 (by rw[hh];rfl)
  ·rw[decide_eq_false om]
 ·rintro _ rfl
  refine condT (λhc=>?_) (λhc=>?_)
  ·rw[if_pos hc] at h;exact h
  ·rw[if_neg hc] at h
   refine jz om (bS (λhp=>?_) (λhp=>?_))
   ·rw[hp,Bool.true_and] at h
    refine jz om (bS (λhq=>?_) (λhq=>?_))
    ·rw[hq,Bool.true_and] at h
     refine lG hn hd om om ?_
     have hgl:(lim (Nat.gcd (val a.Num) (val a.Den))).length<=1099511627760:=by
      refine Nat.le_trans (b8 (Nat.gcd_le_left _ ?_)) (Nat.le_trans (cK hn) ln)
      have:=(k9 hn hp).2
      omega
     show cO (lim (Nat.gcd (val a.Num) (val a.Den))) [1] (λr4=>Q (r4 == 0))
     refine og om ?_
     rw[wy]
     exact h
    ·rw[hq,Bool.false_and] at h;exact h
   ·rw[hp,Bool.false_and] at h;exact h
theorem vv {a:GRat} (h:okR a=false):a_ a=0:=by rw[a_,h];rfl
theorem pi {a:GRat} (h:okR a=true->a.Num.length=0):a_ a=0:=by
 cases ho:okR a with
 | false=>exact vv ho
 | true=>
  have e:=no ho
  have hl:=h ho
  unfold aO at e
  split at e
  ·rename_i hz;exact Rat.num_eq_zero.1 hz
  ·rename_i hz
   rw[e] at hl
   have:=d9.1 (by rw[hl];rfl)
   omega
theorem pj {a:GRat} (ho:okR a=true) (hl:a.Num.length≠0):(a_ a).num≠0/\a=⟨decide ((a_ a).num<0),lim (a_ a).num.natAbs,lim (a_ a).den⟩:=by
 have e:=no ho
 by_cases hz:(a_ a).num=0
 ·exfalso
  unfold aO at e
  rw[if_pos hz] at e
  rw[e] at hl
  exact hl rfl
 ·refine⟨hz,?_⟩
  unfold aO at e
  rw[if_neg hz] at e
  exact e
theorem cp {a:GRat} {Q:Bool->List Int->List Int->Prop} (fa:Fr a) (h:Q (decide ((a_ a).num<0)) (lim (a_ a).num.natAbs) (lim (a_ a).den)):bM a Q:=by
 refine⟨λx=>x=(!okR a || decide (a.Num.length=0)),?_,?_⟩
 ·refine jA fa (bS (λhc=>?_) (λhc=>?_))
  ·rw[hc];rfl
  ·rw[hc,Bool.false_or]
   by_cases hl:a.Num.length=0
   ·rw[decide_eq_true hl];simp;exact List.eq_nil_of_length_eq_zero hl
   ·rw[decide_eq_false hl];simp;intro hh;exact hl (by rw[hh];rfl)
 ·rintro _ rfl
  refine bS (λhc=>?_) (λhc=>?_)
  ·have hz:a_ a=0:=pi (λho=>by rw[ho] at hc;simpa using hc)
   rw[hz] at h
   simp at h
   rw[cB,xP] at h
   exact h
  ·simp at hc
   obtain⟨_,e⟩:=pj hc.1 (λhl=>hc.2 (List.eq_nil_of_length_eq_zero hl))
   rw[show a.Neg=decide ((a_ a).num<0) from by rw[e];simp[<-e],show a.Num=lim (a_ a).num.natAbs from by rw[e];simp[<-e],show a.Den=lim (a_ a).den from by rw[e];simp[<-e]]
   exact h
theorem fY {q:Rat} {k:Nat} (h:RB k q):(lim q.num.natAbs).length<=k / 32+1/\(lim q.den).length<=k / 32+1:=⟨d8 h.1,d8 h.2⟩
theorem ez {m n k l:Nat} (h:m<2^k) (h':n<2^l):(lim (m*n)).length<=(k+l) / 32+1:=d8 (dc h h')
theorem un {m n k:Nat} (h:m<2^k) (h':n<2^k):(lim (m+n)).length<=(k+1) / 32+1:=d8 (by rw[Nat.pow_succ];omega)
theorem sY (p q:Rat):p+q=mkRat (sgn (decide (p.num<0)) (p.num.natAbs*q.den)+sgn (decide (q.num<0)) (q.num.natAbs*p.den)) (p.den*q.den):=by
 rw[tW,tW,kq,kq,Rat.add_def']
theorem sE (p q:Rat):p*q=mkRat (sgn (decide (p.num<0) != decide (q.num<0)) (p.num.natAbs*q.num.natAbs)) (p.den*q.den):=by
 rw[rW,kq,kq,Rat.mul_def']
theorem wq {q:Rat} (_h:q.num≠0):q⁻¹=mkRat (sgn (decide (q.num<0)) q.den) q.num.natAbs:=by
 rw[Rat.inv_def]
 by_cases hn:q.num<0
 ·rw[decide_eq_true hn]
  have e:q.num = -((q.num.natAbs:Nat):Int):=om
  rw[<-Rat.divInt_ofNat]
  show Rat.divInt q.den q.num=Rat.divInt (-(q.den:Int)) _
  rw[<-Rat.divInt_neg',<-e]
 ·rw[decide_eq_false hn]
  have e:q.num=((q.num.natAbs:Nat):Int):=om
  rw[<-Rat.divInt_ofNat]
  show Rat.divInt q.den q.num=Rat.divInt (q.den:Int) _
  rw[<-e]
theorem pF (p:Rat) {q:Rat} (h:q.num≠0):p / q=mkRat (sgn (decide (p.num<0) != decide (q.num<0)) (p.num.natAbs*q.den)) (p.den*q.num.natAbs):=by
 rw[Rat.div_def,wq h,rW,kq]
 have:p=mkRat p.num p.den:=(Rat.mkRat_self p).symm
 rw[this,Rat.mkRat_mul_mkRat,<-this]
theorem sC (p:Rat) : -p=mkRat (sgn (!decide (p.num<0)) p.num.natAbs) p.den:=by
 have e:sgn (!decide (p.num<0)) p.num.natAbs = -p.num:=by
  by_cases h:p.num<0
  ·rw[decide_eq_true h];simp only[sgn,Bool.not_true,Bool.false_eq_true,if_false];omega
  ·rw[decide_eq_false h];simp only[sgn,Bool.not_false,if_true];omega
 rw[e,<-Rat.neg_mkRat,Rat.mkRat_self]
theorem pd {a b:GRat} {k l:Nat} {Q:GRat->Prop} (fa:Fr a) (fb:Fr b) (ka:RB k (a_ a)) (kb:RB l (a_ b)) (hk:k+l+1<=35184372088000) (h:Q (aO (a_ a+a_ b))):iO a b Q:=by
 refine cp fa (cp fb ?_)
 generalize a_ a=p at ka h ⊢
 generalize a_ b=q at kb h ⊢
 have la:=fY ka
 have lb:=fY kb
 have l1:=ez ka.1 kb.2
 have l2:=ez kb.1 ka.2
 have l3:=ez ka.2 kb.2
 have hd:p.den*q.den≠0:=Nat.mul_ne_zero p.den_nz q.den_nz
 refine dF (aq _) (aq _) om (dF (aq _) (aq _) om (dF (aq _) (aq _) om ?_))
 simp only[aB]
 rw[sY] at h
 refine ce (λhs=>?_) (λhs=>?_)
 ·refine qf (aq _) (aq _) (by unfold SM;omega) ⟨by omega,by omega⟩ ?_
  simp only[aB]
  have l4:(lim (p.num.natAbs*q.den+q.num.natAbs*p.den)).length<=(k+l+1) / 32+1:=un (dc ka.1 kb.2) (by rw[Nat.add_comm k];exact dc kb.1 ka.2)
  refine cV (aq _) (aq _) om om (by rw[aB];exact hd) ?_
  rw[aB,aB,tX]
  rw[<-hs] at h
  exact h
 ·refine eo (aq _) (aq _) (by unfold SM;omega) (by unfold SM;omega) ?_
  simp only[aB]
  refine condT (λhc=>?_) (λhc=>?_)
  ·have hle:q.num.natAbs*p.den<=p.num.natAbs*q.den:=by
    rcases Nat.lt_or_ge (p.num.natAbs*q.den) (q.num.natAbs*p.den) with h1 | h1
    ·have:=iv.2 h1;omega
    ·exact h1
   refine lF (aq _) (aq _) (by unfold SM;omega) (by unfold SM;omega) (λhh=>by rw[aB,aB] at hh;omega) (λ_=>?_)
   simp only[aB]
   have l4:=b8 (Nat.sub_le (p.num.natAbs*q.den) (q.num.natAbs*p.den))
   refine cV (aq _) (aq _) om om (by rw[aB];exact hd) ?_
   rw[aB,aB,oB hs hle]
   exact h
  ·have hle:p.num.natAbs*q.den<=q.num.natAbs*p.den:=by
    rcases Nat.lt_or_ge (p.num.natAbs*q.den) (q.num.natAbs*p.den) with h1 | h1
    ·omega
    ·exfalso
     apply hc
     unfold jZ
     split
     ·omega
     ·split<;>omega
   refine lF (aq _) (aq _) (by unfold SM;omega) (by unfold SM;omega) (λhh=>by rw[aB,aB] at hh;omega) (λ_=>?_)
   simp only[aB]
   have l4:=b8 (Nat.sub_le (q.num.natAbs*p.den) (p.num.natAbs*q.den))
   refine cV (aq _) (aq _) om om (by rw[aB];exact hd) ?_
   rw[aB,aB,oB (λe=>hs e.symm) hle,Int.add_comm]
   exact h
theorem o_ {a b:GRat} {k l:Nat} {Q:GRat->Prop} (fa:Fr a) (fb:Fr b) (ka:RB k (a_ a)) (kb:RB l (a_ b)) (hk:k+l+1<=35184372088000) (h:Q (aO (a_ a*a_ b))):dh a b Q:=by
 refine cp fa (cp fb ?_)
 generalize a_ a=p at ka h ⊢
 generalize a_ b=q at kb h ⊢
 have la:=fY ka
 have lb:=fY kb
 have l1:=ez ka.1 kb.1
 have l3:=ez ka.2 kb.2
 have hd:p.den*q.den≠0:=Nat.mul_ne_zero p.den_nz q.den_nz
 refine dF (aq _) (aq _) om (dF (aq _) (aq _) om ?_)
 simp only[aB]
 refine cV (aq _) (aq _) om om (by rw[aB];exact hd) ?_
 rw[aB,aB,<-sE]
 exact h
theorem pa {a b:GRat} {k l:Nat} {Q:GRat->Option Int->Prop} (fa:Fr a) (fb:Fr b) (ka:RB k (a_ a)) (kb:RB l (a_ b)) (hk:k+l+1<=35184372088000)
  (h0:a_ b=0->Q (aO 0) (some 8)) (h:a_ b≠0->Q (aO (a_ a / a_ b)) none):dK a b Q:=by
 refine cp fa (cp fb ?_)
 generalize a_ a=p at ka h ⊢
 generalize a_ b=q at kb h h0 ⊢
 have la:=fY ka
 have lb:=fY kb
 have l1:=ez ka.1 kb.2
 have l3:=ez ka.2 kb.1
 refine ce (λhc=>?_) (λhc=>?_)
 ·rw[d9] at hc
  exact h0 (Rat.num_eq_zero.1 om)
 ·have hq:q.num≠0:=λhh=>hc (d9.2 om)
  have hd:p.den*q.num.natAbs≠0:=Nat.mul_ne_zero p.den_nz om
  refine dF (aq _) (aq _) om (dF (aq _) (aq _) om ?_)
  simp only[aB]
  refine cV (aq _) (aq _) om om (by rw[aB];exact hd) ?_
  rw[aB,aB,<-pF p hq]
  exact h (λhh=>hq (by rw[hh];rfl))
theorem o9 {a:GRat} {k:Nat} {Q:GRat->Prop} (fa:Fr a) (ka:RB k (a_ a)) (hk:k<=35184372088000) (h:Q (aO (-a_ a))):iN a Q:=by
 refine cp fa ?_
 generalize a_ a=p at ka h ⊢
 have la:=fY ka
 refine cV (aq _) (aq _) om om (by rw[aB];exact p.den_nz) ?_
 rw[aB,aB,<-sC]
 exact h
theorem kB {a b:GRat} {k l:Nat} {Q:GRat->Prop} (fa:Fr a) (fb:Fr b) (ka:RB k (a_ a)) (kb:RB l (a_ b)) (hk:k+l+1<=35184372088000) (h:Q (aO (a_ a-a_ b))):cR a b Q:=by
 refine⟨_,o9 fb kb om rfl,_,pd fa (kT (pQ kb) om) ka (by rw[cy];exact pQ kb) hk rfl,?_⟩
 rw[cy,<-Rat.sub_eq_add_neg]
 exact h
def iD (q:Rat):Int:=if q.num=0 then 0 else if q.num<0 then -1 else 1
theorem j2 {a:GRat} {Q:Int->Prop} (fa:Fr a) (h:Q (iD (a_ a))):ee a Q:=by
 refine cp fa ?_
 generalize a_ a=p at h ⊢
 unfold iD at h
 refine ce (λhc=>?_) (λhc=>?_)
 ·rw[d9] at hc
  rw[if_pos om] at h;exact h
 ·have hq:p.num≠0:=λhh=>hc (d9.2 om)
  rw[if_neg hq] at h
  refine condT (λhs=>?_) (λhs=>?_)
  ·rw[if_pos hs] at h;exact h
  ·rw[if_neg hs] at h;exact h
theorem pb {a b:GRat} {k l:Nat} {Q:Int->Prop} (fa:Fr a) (fb:Fr b) (ka:RB k (a_ a)) (kb:RB l (a_ b)) (hk:k+l+1<=35184372088000) (h:Q (iD (a_ a-a_ b))):eH a b Q:=by
 refine kB fa fb ka kb hk (j2 (kT (i3 ka kb) hk) ?_)
 rw[cy]
 exact h
theorem oa {n:Int} {Q:List Int->Prop} (hn:rng n) (h:Q (lim n.natAbs)):gX n Q:=by
 refine ce (λhc=>?_) (λhc=>?_)
 ·subst hc
  have:lim (Int.natAbs (-9223372036854775808))=[0,2147483648]:=by
   rw[show Int.natAbs (-9223372036854775808)=9223372036854775808 from rfl,d7 om,d7 om]
   simp[cB]
  rw[this] at h
  exact h
 ·unfold rng at hn ⊢
  refine⟨by omega,mJ om ?_⟩
  have:(max n (-n)).toNat=n.natAbs:=om
  rw[this]
  exact h
theorem qc {n:Int} {Q:GRat->Prop} (hn:rng n) (h:Q (aO (n:Rat))):ek n Q:=by
 refine oa hn ?_
 show bX _ _ [1] _
 have hl:(lim n.natAbs).length<=64 / 32+1:=d8 (by unfold rng at hn;omega)
 refine cV (aq _) qN om (by simp) (by rw[qP];omega) ?_
 rw[aB,qP,lU,show mkRat n 1=(n:Rat) from Rat.mkRat_self (n:Rat)]
 exact h
end Go.Gg
namespace Go.Gg
theorem jS {neg:Bool} {num den:List Int} {Q:GRat->Int->Prop} (hn:Words num) (hd:Words den) (ln:num.length<=1099511627760) (ld:den.length<=1099511627760)
  (h8:val den=0->Q (aO 0) 8) (h:val den≠0->Q (aO (mkRat (sgn neg (val num)) (val den))) 0):c6 neg num den Q:=by
 refine jU hd (by unfold SM;omega) (ce (λhc=>?_) (λhc=>?_))
 ·exact h8 (e7.1 hc)
 have h0:val den≠0:=λhh=>hc (e7.2 hh)
 replace h:=h h0
 refine jU hn (by unfold SM;omega) (ce (λhc=>?_) (λhc=>?_))
 ·rw[e7] at hc
  rw[hc,nk] at h
  exact h
 ·have hn0:val num≠0:=λhh=>hc (e7.2 hh)
  rw[pe hn0 h0] at h
  have hgp:Nat.gcd (val num) (val den)≠0:=Nat.ne_of_gt (Nat.gcd_pos_of_pos_left _ om)
  refine nU hn hd om om ?_
  have hgl:(lim (Nat.gcd (val num) (val den))).length<=1099511627760:=by
   refine Nat.le_trans (b8 (Nat.gcd_le_left _ om)) (Nat.le_trans (cK hn) ln)
  refine kz hn (aq _) om om (λhh=>absurd (by rwa[aB] at hh) hgp) (λ_=>?_)
  refine kz hd (aq _) om om (λhh=>absurd (by rwa[aB] at hh) hgp) (λ_=>?_)
  rw[aB]
  exact h
theorem ft {neg:Bool} {num den:List Int} {Q:GRat->Int->Prop} (hn:Words num) (hd:Words den) (ln:num.length<=1099511627760) (ld:den.length<=1099511627760)
  (h0:val den≠0) (h:Q (aO (mkRat (sgn neg (val num)) (val den))) 0):c6 neg num den Q:=
 jS hn hd ln ld (λhh=>absurd hh h0) (λ_=>h)
theorem wF {n:Nat}:((bv n:Int) == 1)=decide (n=1):=by
 have h:(bv n:Int)=1↔n=1:=by
  constructor
  ·intro h
   have a:=lk (n:=n)
   rw[show bv n=1 by omega] at a
   have:n≠0:=by rintro rfl;rw[qJ] at h;omega
   omega
  ·rintro rfl;rfl
 by_cases hn:n=1
 ·rw[decide_eq_true hn];simpa using h.2 hn
 ·rw[decide_eq_false hn];simpa using λe=>hn (h.1 e)
theorem lz {a:GRat} {Q:Bool->Prop} (fa:Fr a) (h:Q (okR a)):fr a Q:=by
 obtain⟨hn,hd,ln,ld⟩:=fa
 rw[t5 hn hd] at h
 have hpb:∀l:List Int,l.length≠0->l.length<=1099511627760->rng ((l.length:Int)-1)/\((0:Int)<=((l.length:Int)-1)/\((l.length:Int)-1)<(l.length:Int))/\eJ l=(at' l ((l.length:Int)-1) != 0):=λl hl hl2=>by
  have:(l.length:Int)-1=((l.length-1:Nat):Int):=om
  refine⟨by unfold rng;omega,by omega,?_⟩
  rw[this,eu]
  simp only[eJ]
  rw[decide_eq_true (by omega:0<l.length),Bool.true_and]
 have hpn:∀l:List Int,l.length=0->eJ l=false:=λl hl=>by
  simp only[eJ]
  rw[decide_eq_false (by omega:¬0<l.length),Bool.false_and]
 refine⟨λx=>x=decide (a.Num.length=0\/a.Den.length=0),?_,?_⟩
 ·refine ce (λhc=>?_) (λhc=>?_)
  ·rw[decide_eq_true om]
  ·by_cases hd0:a.Den.length=0
   ·rw[decide_eq_true om];simp;exact List.eq_nil_of_length_eq_zero hd0
   ·rw[decide_eq_false om];simp;intro hh;exact hd0 (by rw[hh];rfl)
 ·rintro _ rfl
  refine condT (λhc=>?_) (λhc=>?_)
  ·refine ce (λh1=>ce (λh2=>?_) (λh2=>?_)) (λh1=>?_)
   ·rw[if_pos om] at h;exact h
   ·rw[if_neg om,hpn _ (by omega:a.Num.length=0),Bool.false_and] at h;exact h
   ·rw[if_neg om,hpn a.Den om,Bool.false_and,Bool.and_false] at h;exact h
  ·obtain⟨r1,r2,r3⟩:=hpb a.Num om ln
   obtain⟨s1,s2,s3⟩:=hpb a.Den om ld
   rw[if_neg om] at h
   refine⟨r1,r2,?_⟩
   rw[<-r3]
   refine bS (λhp=>⟨s1,s2,?_⟩) (λhp=>?_)
   ·rw[hp,Bool.true_and] at h
    rw[<-s3]
    refine bS (λhq=>?_) (λhq=>?_)
    ·rw[hq,Bool.true_and] at h
     refine nU hn hd om om ?_
     have hgl:(lim (Nat.gcd (val a.Num) (val a.Den))).length<=1099511627760:=by
      refine Nat.le_trans (b8 (Nat.gcd_le_left _ ?_)) (Nat.le_trans (cK hn) ln)
      have:=(k9 hn hp).2
      omega
     refine jU (aq _) (by unfold SM;omega) ?_
     rw[aB,wF]
     exact h
    ·rw[hq,Bool.false_and] at h;exact h
   ·rw[hp,Bool.false_and] at h;exact h
theorem c_ {a:GRat} {Q:Bool->List Int->List Int->Prop} (fa:Fr a) (h:Q (decide ((a_ a).num<0)) (lim (a_ a).num.natAbs) (lim (a_ a).den)):cw a Q:=by
 refine⟨λx=>x=(!okR a || decide (a.Num.length=0)),?_,?_⟩
 ·refine lz fa (bS (λhc=>?_) (λhc=>?_))
  ·rw[hc];rfl
  ·have hc:okR a=true:=by simpa using hc
   rw[hc,Bool.not_true,Bool.false_or]
   by_cases hl:a.Num.length=0
   ·rw[decide_eq_true hl];simp;exact List.eq_nil_of_length_eq_zero hl
   ·rw[decide_eq_false hl];simp;intro hh;exact hl (by rw[hh];rfl)
 ·rintro _ rfl
  refine bS (λhc=>?_) (λhc=>?_)
  ·have hz:a_ a=0:=pi (λho=>by rw[ho] at hc;simpa using hc)
   rw[hz] at h
   simp at h
   rw[cB,xP] at h
   exact h
  ·simp at hc
   obtain⟨_,e⟩:=pj hc.1 (λhl=>hc.2 (List.eq_nil_of_length_eq_zero hl))
   rw[show a.Neg=decide ((a_ a).num<0) from by rw[e];simp[<-e],show a.Num=lim (a_ a).num.natAbs from by rw[e];simp[<-e],show a.Den=lim (a_ a).den from by rw[e];simp[<-e]]
   exact h
theorem sg {a b:GRat} {k l:Nat} {Q:GRat->Prop} (fa:Fr a) (fb:Fr b) (ka:RB k (a_ a)) (kb:RB l (a_ b)) (hk:k+l+1<=35184372088000) (h:Q (aO (a_ a+a_ b))):ky a b Q:=by
 refine c_ fa (c_ fb ?_)
 generalize a_ a=p at ka h ⊢
 generalize a_ b=q at kb h ⊢
 have la:=fY ka
 have lb:=fY kb
 have l1:=ez ka.1 kb.2
 have l2:=ez kb.1 ka.2
 have l3:=ez ka.2 kb.2
 have hd:p.den*q.den≠0:=Nat.mul_ne_zero p.den_nz q.den_nz
 refine dX (aq _) (aq _) om (dX (aq _) (aq _) om (dX (aq _) (aq _) om ?_))
 simp only[aB]
 rw[sY] at h
 refine ce (λhs=>?_) (λhs=>?_)
 ·refine si (aq _) (aq _) ⟨by omega,by omega⟩ ?_
  simp only[aB]
  have l4:(lim (p.num.natAbs*q.den+q.num.natAbs*p.den)).length<=(k+l+1) / 32+1:=un (dc ka.1 kb.2) (by rw[Nat.add_comm k];exact dc kb.1 ka.2)
  refine ft (aq _) (aq _) om om (by rw[aB];exact hd) ?_
  rw[aB,aB,tX]
  rw[<-hs] at h
  exact h
 ·refine wo (kA (aq _) (aq _) (by unfold SM;omega) (by unfold SM;omega) ?_)
  simp only[aB]
  refine condT (λhc=>?_) (λhc=>?_)
  ·have hlt:p.num.natAbs*q.den<q.num.natAbs*p.den:=iv.1 hc
   refine i9 (aq _) (aq _) (by unfold SM;omega) (by unfold SM;omega) (λhh=>by rw[aB,aB] at hh;omega) (λ_=>?_)
   simp only[aB]
   have l4:=b8 (Nat.sub_le (q.num.natAbs*p.den) (p.num.natAbs*q.den))
   refine ft (aq _) (aq _) om om (by rw[aB];exact hd) ?_
   rw[aB,aB,oB (λe=>hs e.symm) om,Int.add_comm]
   exact h
  ·have hle:q.num.natAbs*p.den<=p.num.natAbs*q.den:=by
    rcases Nat.lt_or_ge (p.num.natAbs*q.den) (q.num.natAbs*p.den) with h1 | h1
    ·exact absurd (iv.2 h1) hc
    ·exact h1
   refine i9 (aq _) (aq _) (by unfold SM;omega) (by unfold SM;omega) (λhh=>by rw[aB,aB] at hh;omega) (λ_=>?_)
   simp only[aB]
   have l4:=b8 (Nat.sub_le (p.num.natAbs*q.den) (q.num.natAbs*p.den))
   refine ft (aq _) (aq _) om om (by rw[aB];exact hd) ?_
   rw[aB,aB,oB hs hle]
   exact h
theorem sd {a b:GRat} {k l:Nat} {Q:GRat->Prop} (fa:Fr a) (fb:Fr b) (ka:RB k (a_ a)) (kb:RB l (a_ b)) (hk:k+l+1<=35184372088000) (h:Q (aO (a_ a*a_ b))):eG a b Q:=by
 refine c_ fa (c_ fb ?_)
 generalize a_ a=p at ka h ⊢
 generalize a_ b=q at kb h ⊢
 have la:=fY ka
 have lb:=fY kb
 have l1:=ez ka.1 kb.1
 have l3:=ez ka.2 kb.2
 have hd:p.den*q.den≠0:=Nat.mul_ne_zero p.den_nz q.den_nz
 refine dX (aq _) (aq _) om (dX (aq _) (aq _) om ?_)
 simp only[aB]
 refine ft (aq _) (aq _) om om (by rw[aB];exact hd) ?_
 rw[aB,aB,<-sE]
 exact h
theorem se {a b:GRat} {k l:Nat} {Q:GRat->Int->Prop} (fa:Fr a) (fb:Fr b) (ka:RB k (a_ a)) (kb:RB l (a_ b)) (hk:k+l+1<=35184372088000)
  (h0:a_ b=0->Q (aO 0) 8) (h:a_ b≠0->Q (aO (a_ a / a_ b)) 0):fE a b Q:=by
 refine c_ fa (c_ fb ?_)
 generalize a_ a=p at ka h ⊢
 generalize a_ b=q at kb h h0 ⊢
 have la:=fY ka
 have lb:=fY kb
 have l1:=ez ka.1 kb.2
 have l3:=ez ka.2 kb.1
 refine dX (aq _) (aq _) om (dX (aq _) (aq _) om ?_)
 simp only[aB]
 refine jS (aq _) (aq _) om om (λhz=>?_) (λhz=>?_)
 ·rw[aB] at hz
  refine h0 (Rat.num_eq_zero.1 ?_)
  rcases Nat.mul_eq_zero.1 hz with hh | hh
  ·exact absurd hh p.den_nz
  ·omega
 ·rw[aB] at hz
  have hq:q.num≠0:=λhh=>hz (by rw[hh];simp)
  rw[aB,aB,<-pF p hq]
  exact h (λhh=>hq (by rw[hh];rfl))
theorem sa {a:GRat} {k:Nat} {Q:GRat->Prop} (fa:Fr a) (ka:RB k (a_ a)) (hk:k<=35184372088000) (h:Q (aO (-a_ a))):kw a Q:=by
 refine c_ fa ?_
 generalize a_ a=p at ka h ⊢
 have la:=fY ka
 refine ft (aq _) (aq _) om om (by rw[aB];exact p.den_nz) ?_
 rw[aB,aB,<-sC]
 exact h
theorem nT {a b:GRat} {k l:Nat} {Q:GRat->Prop} (fa:Fr a) (fb:Fr b) (ka:RB k (a_ a)) (kb:RB l (a_ b)) (hk:k+l+1<=35184372088000) (h:Q (aO (a_ a-a_ b))):eE a b Q:=by
 refine⟨_,sa fb kb om rfl,_,sg fa (kT (pQ kb) om) ka (by rw[cy];exact pQ kb) hk rfl,?_⟩
 rw[cy,<-Rat.sub_eq_add_neg]
 exact h
theorem mv {a:GRat} {Q:Int->Prop} (fa:Fr a) (h:Q (iD (a_ a))):d5 a Q:=by
 refine c_ fa ?_
 generalize a_ a=p at h ⊢
 unfold iD at h
 refine ce (λhc=>?_) (λhc=>?_)
 ·rw[d9] at hc
  rw[if_pos om] at h;exact h
 ·have hq:p.num≠0:=λhh=>hc (d9.2 om)
  rw[if_neg hq] at h
  refine condT (λhs=>?_) (λhs=>?_)
  ·rw[if_pos hs] at h;exact h
  ·rw[if_neg hs] at h;exact h
theorem sf {a b:GRat} {k l:Nat} {Q:Int->Prop} (fa:Fr a) (fb:Fr b) (ka:RB k (a_ a)) (kb:RB l (a_ b)) (hk:k+l+1<=35184372088000) (h:Q (iD (a_ a-a_ b))):fF a b Q:=by
 refine nT fa fb ka kb hk (mv (kT (i3 ka kb) hk) ?_)
 rw[cy]
 exact h
theorem mu {n:Int} {Q:List Int->Prop} (hn:rng n) (h:∀l,Words l->l.length=2->val l=n.natAbs->Q l):ij n Q:=by
 unfold rng at hn
 refine wo ?_
 have key:∀u:Int,u=n.natAbs->Q [(IntKind.wrap .u32 u),(IntKind.wrap .u32 (u / 2^(Int.toNat 32)))]:=by
  intro u hu
  rw[wrap_u32,wrap_u32]
  have h32:(2:Int)^(Int.toNat 32)=4294967296:=rfl
  rw[h32]
  have hw2:Words [u / 4294967296 % 4294967296]:=Words.one om om
  have hw:Words [u % 4294967296,u / 4294967296 % 4294967296]:=by
   intro i
   match i with
   | 0=>simp;omega
   | 1=>simp;omega
   | i+2=>simp
  refine h _ hw rfl ?_
  rw[gK hw,gK hw2,jN]
  omega
 refine condT (λhc=>fH ?_) (λhc=>?_)
 ·rw[km,km]
  exact key _ om
 ·rw[km]
  exact key _ om
theorem mw {n d:Int} {Q:GRat->Int->Prop} (hn:rng n) (hd:rng d) (h0:d=0->Q (aO 0) 8) (h:d≠0->Q (aO ((n:Rat) / (d:Rat))) 0):im n d Q:=by
 refine mu hn λl1 w1 e1 v1=>mu hd λl2 w2 e2 v2=>?_
 refine jS w1 w2 om om (λhz=>?_) (λhz=>?_)
 ·exact h0 om
 ·rw[v1,v2]
  have hd0:d≠0:=om
  have e:=pF (n:Rat) (q:=(d:Rat)) (by simpa using hd0)
  simp only[Rat.num_intCast,Rat.den_intCast,Nat.mul_one,Nat.one_mul] at e
  have h2:=h hd0
  rw[e] at h2
  exact h2
theorem oZ {n:Int} {Q:GRat->Prop} (hn:rng n) (h:Q (aO (n:Rat))):eF n Q:=by
 refine mw hn (by unfold rng;omega) (λhh=>absurd hh om) (λ_=>?_)
 have:(n:Rat) / ((1:Int):Rat)=n:=by
  rw[Rat.div_def]
  show(n:Rat)*(1:Rat)⁻¹=n
  rw[show(1:Rat)⁻¹=1 from(Rat.mul_one _).symm.trans (Rat.inv_mul_cancel 1 (by decide)),Rat.mul_one]
 rw[this]
 exact h
end Go.Gg
namespace Go.Gg
theorem xS {α:Type} [Inhabited α] {l m:List α} (hl:l.length=m.length) (h:∀i:Nat,i<l.length->at' l (i:Int)=at' m (i:Int)):l=m:=by
 refine List.ext_getElem hl λi h1 h2=>?_
 have:=h i h1
 simp only[at',Int.toNat_natCast,List.getD_eq_getElem?_getD,List.getElem?_eq_getElem h1,List.getElem?_eq_getElem h2,Option.getD_some] at this
 exact this
instance decGRat:DecidableEq GRat:=λ_ _=>decidable_of_iff _ mQ
theorem mX {a b:List Int} {Q:Bool->Prop} (la:a.length<=1099511627776) (h:Q (decide (a=b))):iw a b Q:=by
 refine dz (λhc=>?_) (λhc=>?_)
 ·rw[decide_eq_false (λe=>hc (by rw[e]))] at h;exact h
 ·have hl:a.length=b.length:=om
  refine⟨λx=>∃i:Nat,x=i/\i<=a.length/\∀j:Nat,j<i->at' a (j:Int)=at' b (j:Int),λx=>a.length-x.toNat,⟨0,rfl,by omega,λj hj=>absurd hj om⟩,?_⟩
  rintro _ ⟨i,rfl,hi,hI⟩
  refine condT (λhc=>⟨⟨by omega,hc⟩,⟨by omega,by omega⟩,dz (λhne=>?_) (λhe=>⟨by unfold rng;omega,⟨i+1,by omega,by omega,λj hj=>?_⟩,by dsimp only;omega⟩)⟩) (λhc=>?_)
  ·rw[decide_eq_false (λe=>hne (by rw[e]))] at h;exact h
  ·rcases Nat.lt_or_ge j i with h1 | h1
   ·exact hI j h1
   ·obtain rfl:j=i:=om
    exact he
  ·rw[decide_eq_true (xS hl (λj hj=>hI j om))] at h;exact h
theorem pN {a b:GRat} {Q:Bool->Prop} (la:a.Num.length<=1099511627776) (ld:a.Den.length<=1099511627776) (h:Q (decide (a=b))):fC a b Q:=by
 obtain⟨n,x,y⟩:=a
 obtain⟨n',x',y'⟩:=b
 refine ce (λh1=>?_) (λh1=>?_)
 ·refine mX la (condT (λh2=>?_) (λh2=>?_))
  ·refine mX ld ?_
   dsimp only at h1 h2 ⊢
   subst h1 h2
   by_cases h3:y=y'
   ·subst h3;rw[decide_eq_true rfl] at h ⊢;exact h
   ·rw[decide_eq_false h3];rw[decide_eq_false (λe=>h3 (by injection e))] at h;exact h
  ·rw[decide_eq_false (λe=>h2 (by injection e))] at h;exact h
 ·rw[decide_eq_false (λe=>h1 (by injection e))] at h;exact h
theorem sU {a b:List GRat} {Q:Bool->Prop} (la:a.length<=1099511627776) (hs:∀i:Nat,i<a.length->(at' a (i:Int)).Num.length<=1099511627776/\(at' a (i:Int)).Den.length<=1099511627776)
  (h:Q (decide (a=b))):gR a b Q:=by
 refine dz (λhc=>?_) (λhc=>?_)
 ·rw[decide_eq_false (λe=>hc (by rw[e]))] at h;exact h
 ·have hl:a.length=b.length:=om
  refine⟨λx=>∃i:Nat,x=i/\i<=a.length/\∀j:Nat,j<i->at' a (j:Int)=at' b (j:Int),λx=>a.length-x.toNat,⟨0,rfl,by omega,λj hj=>absurd hj om⟩,?_⟩
  rintro _ ⟨i,rfl,hi,hI⟩
  refine condT (λhc=>⟨⟨by omega,hc⟩,⟨by omega,by omega⟩,_,pN (hs i om).1 (hs i om).2 rfl,bS (λhne=>?_) (λhe=>⟨by unfold rng;omega,⟨i+1,by omega,by omega,λj hj=>?_⟩,by dsimp only;omega⟩)⟩) (λhc=>?_)
  ·rw[Bool.not_eq_true',decide_eq_false_iff_not] at hne
   rw[decide_eq_false (λe=>hne (by rw[e]))] at h;exact h
  ·rw[Bool.not_eq_false',decide_eq_true_iff] at he
   rcases Nat.lt_or_ge j i with h1 | h1
   ·exact hI j h1
   ·obtain rfl:j=i:=om
    exact he
  ·rw[decide_eq_true (xS hl (λj hj=>hI j om))] at h;exact h
theorem kN {a:List GRat} {Q:Bool->Prop} (la:a.length<=1099511627776) (hs:∀i:Nat,i<a.length->(at' a (i:Int)).Num.length<=1099511627776/\(at' a (i:Int)).Den.length<=1099511627776)
  (h:Q true):gR a a Q:=sU la hs (by rw[decide_eq_true rfl];exact h)
def nB (e:Int):Option Int:=if e=0 then none else some e
theorem tK {e:Int} {Q:Int->Prop} (h:Q e):l9 (nB e) Q:=by
 unfold nB
 by_cases he:e=0
 ·rw[if_pos he];subst he;exact bS (λ_=>h) (λhh=>by cases hh)
 ·rw[if_neg he];exact bS (λhh=>by cases hh) (λ_=>bS (λ_=>h) (λhh=>by cases hh))
end Go.Gg
namespace Go.Gg
def Rp (k:Nat) (a:GRat) (q:Rat):Prop:=Fr a/\a_ a=q/\RB k q
def WrR (a:GRat):Prop:=Words a.Num/\Words a.Den
def WrL (l:List GRat):Prop:=∀i:Nat,i<l.length->WrR (at' l (i:Int))
abbrev cap:Nat:=35184372088000
theorem Rp.of {q:Rat} {k:Nat} (h:RB k q) (hk:k<=cap):Rp k (aO q) q:=⟨kT h hk,cy q,h⟩
theorem Rp.mono {a:GRat} {q:Rat} {k l:Nat} (h:Rp k a q) (hkl:k<=l):Rp l a q:=⟨h.1,h.2.1,h.2.2.mono hkl⟩
theorem Rp.self {a:GRat} {k:Nat} (h:Fr a) (hb:RB k (a_ a)):Rp k a (a_ a):=⟨h,rfl,hb⟩
theorem Rp.len {a:GRat} {q:Rat} {k:Nat} (h:Rp k a q):a.Num.length<=1099511627776/\a.Den.length<=1099511627776:=⟨Nat.le_trans h.1.2.2.1 om,Nat.le_trans h.1.2.2.2 om⟩
theorem Rp.zero {k:Nat} (hk:1<=k) (hk2:k<=cap):Rp k (⟨false,[],[]⟩:GRat) 0:=.of (rA k hk) hk2
theorem fJ {n:Int} (hn:rng n):RB 64 (n:Rat):=wL om (by unfold rng at hn;omega)
theorem vN {q:Rat}:iD q<0↔q<0:=by
 unfold iD
 have h1:q.num<0↔q<0:=by
  have:=Rat.num_nonneg (q:=q)
  rw[<-Int.not_le,this,Rat.not_le]
 split
 ·rename_i h;rw[h] at h1;simpa using h1
 ·split
  ·rename_i h;simpa using h1.1 h
  ·rename_i h;simpa using λhh=>h (h1.2 hh)
theorem kW {q:Rat}:iD q=0↔q=0:=by
 unfold iD
 constructor
 ·intro h
  split at h
  ·rename_i h0;exact Rat.num_eq_zero.1 h0
  ·split at h<;>omega
 ·rintro rfl;rfl
theorem kr {q:Rat}:0<=iD q↔0<=q:=by rw[<-Int.not_lt,vN,Rat.not_lt]
theorem vM {q:Rat}:0<iD q↔0<q:=by
 have h1:=@kr q
 have h2:=@kW q
 constructor
 ·intro h
  have h3:=h1.1 om
  rcases Rat.le_iff_lt_or_eq.1 h3 with h4 | h4
  ·exact h4
  ·have:=h2.2 h4.symm;omega
 ·intro h
  have h3:=h1.2 (Rat.le_of_lt h)
  have h4:iD q≠0:=λe=>by rw[h2.1 e] at h;exact Rat.lt_irrefl h
  omega
theorem rX {q:Rat}:iD q<=0↔q<=0:=by rw[<-Int.not_lt,vM,Rat.not_lt]
theorem rP {p q:Rat}:p-q<=0↔p<=q:=by constructor<;>intro h<;>grind
theorem yH {a b:GRat} {p q:Rat} {k l:Nat} {Q:GRat->Prop} (ha:Rp k a p) (hb:Rp l b q) (hk:k+l+1<=cap) (h:Rp (k+l+1) (aO (p-q)) (p-q)->Q (aO (p-q))):cR a b Q:=by
 obtain⟨fa,rfl,ka⟩:=ha
 obtain⟨fb,rfl,kb⟩:=hb
 exact kB fa fb ka kb hk (h (.of (i3 ka kb) hk))
theorem te {a b:GRat} {p q:Rat} {k l:Nat} {K:GRat->Prop} (ha:Rp k a p) (hb:Rp l b q) (hk:k+l+1<=cap) (h:Rp (k+l+1) (aO (p-q)) (p-q)->K (aO (p-q))):cP (cR a b) K:=
 ⟨_,yH ha hb hk (λ_=>rfl),h (.of (i3 ha.2.2 hb.2.2) hk)⟩
theorem xO {a b:GRat} {p q:Rat} {k l:Nat} {Q:GRat->Prop} (ha:Rp k a p) (hb:Rp l b q) (hk:k+l+1<=cap) (h:Rp (k+l) (aO (p*q)) (p*q)->Q (aO (p*q))):dh a b Q:=by
 obtain⟨fa,rfl,ka⟩:=ha
 obtain⟨fb,rfl,kb⟩:=hb
 exact o_ fa fb ka kb hk (h (.of (kS ka kb) (by simp only[cap] at hk ⊢;omega)))
theorem wh {a b:GRat} {p q:Rat} {k l:Nat} {K:GRat->Prop} (ha:Rp k a p) (hb:Rp l b q) (hk:k+l+1<=cap) (h:Rp (k+l) (aO (p*q)) (p*q)->K (aO (p*q))):cP (dh a b) K:=
 ⟨_,xO ha hb hk (λ_=>rfl),h (.of (kS ha.2.2 hb.2.2) (by simp only[cap] at hk ⊢;omega))⟩
theorem y6 {a b:GRat} {p q:Rat} {k l:Nat} {Q:GRat->Option Int->Prop} (ha:Rp k a p) (hb:Rp l b q) (hk:k+l+1<=cap) (h0:q=0->Q (aO 0) (some 8)) (h:q≠0->Rp (k+l) (aO (p / q)) (p / q)->Q (aO (p / q)) none):dK a b Q:=by
 obtain⟨fa,rfl,ka⟩:=ha
 obtain⟨fb,rfl,kb⟩:=hb
 exact pa fa fb ka kb hk h0 (λhn=>h hn (.of (mc ka kb) (by simp only[cap] at hk ⊢;omega)))
theorem wx {a b:GRat} {p q:Rat} {k l:Nat} {K:GRat->Option Int->Prop} (ha:Rp k a p) (hb:Rp l b q) (hk:k+l+1<=cap) (hq:q≠0) (h:Rp (k+l) (aO (p / q)) (p / q)->K (aO (p / q)) none):qI (dK a b) K:=
 ⟨_,_,y6 ha hb hk (λe=>absurd e hq) (λ_ _=>⟨rfl,rfl⟩),h (.of (mc ha.2.2 hb.2.2) (by simp only[cap] at hk ⊢;omega))⟩
theorem yc {a:GRat} {p:Rat} {k:Nat} {Q:Int->Prop} (ha:Rp k a p) (h:Q (iD p)):ee a Q:=by
 obtain⟨fa,rfl,ka⟩:=ha
 exact j2 fa h
theorem y8 {a b:GRat} {p q:Rat} {k l:Nat} {Q:Int->Prop} (ha:Rp k a p) (hb:Rp l b q) (hk:k+l+1<=cap) (h:Q (iD (p-q))):eH a b Q:=by
 obtain⟨fa,rfl,ka⟩:=ha
 obtain⟨fb,rfl,kb⟩:=hb
 exact pb fa fb ka kb hk h
theorem yv {a b:GRat} {p q:Rat} {k l:Nat} {K:Int->Prop} (ha:Rp k a p) (hb:Rp l b q) (hk:k+l+1<=cap) (h:K (iD (p-q))):cP (eH a b) K:=⟨_,y8 ha hb hk rfl,h⟩
theorem v5 {n:Int} {K:GRat->Prop} (hn:rng n) (h:Rp 64 (aO (n:Rat)) (n:Rat)->K (aO (n:Rat))):cP (ek n) K:=⟨_,qc hn rfl,h (.of (fJ hn) (by decide))⟩
theorem yG {a b:GRat} {p q:Rat} {k l:Nat} {Q:GRat->Prop} (ha:Rp k a p) (hb:Rp l b q) (hk:k+l+1<=cap) (h:Rp (k+l+1) (aO (p-q)) (p-q)->Q (aO (p-q))):eE a b Q:=by
 obtain⟨fa,rfl,ka⟩:=ha
 obtain⟨fb,rfl,kb⟩:=hb
 exact nT fa fb ka kb hk (h (.of (i3 ka kb) hk))
theorem tc {a b:GRat} {p q:Rat} {k l:Nat} {K:GRat->Prop} (ha:Rp k a p) (hb:Rp l b q) (hk:k+l+1<=cap) (h:Rp (k+l+1) (aO (p-q)) (p-q)->K (aO (p-q))):cP (eE a b) K:=
 ⟨_,yG ha hb hk (λ_=>rfl),h (.of (i3 ha.2.2 hb.2.2) hk)⟩
theorem xN {a b:GRat} {p q:Rat} {k l:Nat} {Q:GRat->Prop} (ha:Rp k a p) (hb:Rp l b q) (hk:k+l+1<=cap) (h:Rp (k+l) (aO (p*q)) (p*q)->Q (aO (p*q))):eG a b Q:=by
 obtain⟨fa,rfl,ka⟩:=ha
 obtain⟨fb,rfl,kb⟩:=hb
 exact sd fa fb ka kb hk (h (.of (kS ka kb) (by simp only[cap] at hk ⊢;omega)))
theorem we {a b:GRat} {p q:Rat} {k l:Nat} {K:GRat->Prop} (ha:Rp k a p) (hb:Rp l b q) (hk:k+l+1<=cap) (h:Rp (k+l) (aO (p*q)) (p*q)->K (aO (p*q))):cP (eG a b) K:=
 ⟨_,xN ha hb hk (λ_=>rfl),h (.of (kS ha.2.2 hb.2.2) (by simp only[cap] at hk ⊢;omega))⟩
theorem y5 {a b:GRat} {p q:Rat} {k l:Nat} {Q:GRat->Int->Prop} (ha:Rp k a p) (hb:Rp l b q) (hk:k+l+1<=cap) (h0:q=0->Q (aO 0) (8)) (h:q≠0->Rp (k+l) (aO (p / q)) (p / q)->Q (aO (p / q)) 0):fE a b Q:=by
 obtain⟨fa,rfl,ka⟩:=ha
 obtain⟨fb,rfl,kb⟩:=hb
 exact se fa fb ka kb hk h0 (λhn=>h hn (.of (mc ka kb) (by simp only[cap] at hk ⊢;omega)))
theorem ww {a b:GRat} {p q:Rat} {k l:Nat} {K:GRat->Int->Prop} (ha:Rp k a p) (hb:Rp l b q) (hk:k+l+1<=cap) (hq:q≠0) (h:Rp (k+l) (aO (p / q)) (p / q)->K (aO (p / q)) 0):qI (fE a b) K:=
 ⟨_,_,y5 ha hb hk (λe=>absurd e hq) (λ_ _=>⟨rfl,rfl⟩),h (.of (mc ha.2.2 hb.2.2) (by simp only[cap] at hk ⊢;omega))⟩
theorem vK {a:GRat} {p:Rat} {k:Nat} {Q:Int->Prop} (ha:Rp k a p) (h:Q (iD p)):d5 a Q:=by
 obtain⟨fa,rfl,ka⟩:=ha
 exact mv fa h
theorem w7 {a:GRat} {p:Rat} {k:Nat} {K:Int->Prop} (ha:Rp k a p) (h:K (iD p)):cP (d5 a) K:=⟨_,vK ha rfl,h⟩
theorem y7 {a b:GRat} {p q:Rat} {k l:Nat} {Q:Int->Prop} (ha:Rp k a p) (hb:Rp l b q) (hk:k+l+1<=cap) (h:Q (iD (p-q))):fF a b Q:=by
 obtain⟨fa,rfl,ka⟩:=ha
 obtain⟨fb,rfl,kb⟩:=hb
 exact sf fa fb ka kb hk h
theorem wz {a b:GRat} {p q:Rat} {k l:Nat} {K:Int->Prop} (ha:Rp k a p) (hb:Rp l b q) (hk:k+l+1<=cap) (h:K (iD (p-q))):cP (fF a b) K:=⟨_,y7 ha hb hk rfl,h⟩
theorem zo {n:Int} {Q:GRat->Prop} (hn:rng n) (h:Rp 64 (aO (n:Rat)) (n:Rat)->Q (aO (n:Rat))):eF n Q:=oZ hn (h (.of (fJ hn) (by decide)))
theorem t7 {n:Int} {K:GRat->Prop} (hn:rng n) (h:Rp 64 (aO (n:Rat)) (n:Rat)->K (aO (n:Rat))):cP (eF n) K:=⟨_,oZ hn rfl,h (.of (fJ hn) (by decide))⟩
theorem vu {a:GRat} {K:Bool->Prop} (fa:Fr a) (h:K (okR a)):cP (fr a) K:=⟨_,lz fa rfl,h⟩
def cn (a:GRat):Bool:=okR a && (decide (0<=a_ a) && decide (a_ a<=1))
theorem tz {q:Rat}:q<=1↔q.num<=(q.den:Int):=by
 rw[Rat.le_iff]
 simp
theorem oc {a:GRat} {Q:Bool->Prop} (fa:Fr a) (h:Q (cn a)):gY a Q:=by
 refine jA fa (bS (λhc=>?_) (λhc=>?_))
 ·unfold cn at h
  rw[hc,Bool.true_and] at h
  have e:=no hc
  generalize a_ a=q at e h
  subst e
  by_cases hz:q.num=0
  ·have hq:q=0:=Rat.num_eq_zero.1 hz
   subst hq
   refine bS (λ_=>eo (a:=[]) (b:=[]) (λi=>by simp) (λi=>by simp) (by simp) (by simp) ?_) (λhh=>by cases hh)
   exact h
  ·have e2:aO q=⟨decide (q.num<0),lim q.num.natAbs,lim q.den⟩:=by unfold aO;rw[if_neg hz]
   rw[e2] at fa ⊢
   refine bS (λhn=>?_) (λhn=>?_)
   ·simp only[Bool.not_eq_true',decide_eq_false_iff_not] at hn
    refine eo fa.1 fa.2.1 (Nat.le_trans fa.2.2.1 om) (Nat.le_trans fa.2.2.2 om) ?_
    have e3:(decide (0<=q) && decide (q<=1))=decide (jZ (val (lim q.num.natAbs)) (val (lim q.den))<=0):=by
     rw[aB,aB,decide_eq_true (Rat.num_nonneg.1 om),Bool.true_and]
     refine decide_eq_decide.2 ?_
     rw[tz]
     have:=@rt q.num.natAbs q.den
     omega
    rw[e3] at h
    exact h
   ·simp only[Bool.not_eq_false',decide_eq_true_eq] at hn
    rw[decide_eq_false (λhh=>by have:=Rat.num_nonneg.2 hh;omega),Bool.false_and] at h
    exact h
 ·unfold cn at h
  rw[hc,Bool.false_and] at h
  exact h
theorem ik {a:GRat} {k:Nat} {Q:Bool->Prop} (fa:Fr a) (ka:RB k (a_ a)) (hk:k+65<=cap) (h:Q (cn a)):eW a Q:=by
 unfold cn at h
 refine vu fa (bS (λhc=>?_) (λhc=>?_))
 ·rw[hc,Bool.true_and] at h
  refine w7 (.self fa ka) (condT (λh0=>?_) (λh0=>?_))
  ·rw[decide_eq_true (kr.1 h0),Bool.true_and] at h
   refine t7 (by unfold rng;omega) λh1=>wz (.self fa ka) h1 (by simp only[cap] at hk ⊢;omega) ?_
   have e:decide (iD (a_ a-((1:Int):Rat))<=0)=decide (a_ a<=1):=decide_eq_decide.2 (by rw[rX];exact rP)
   rw[e];exact h
  ·rw[decide_eq_false (λhh=>h0 (kr.2 hh)),Bool.false_and] at h
   exact h
 ·rw[hc,Bool.false_and] at h
  exact h
end Go.Gg
namespace Go.Gg
end Go.Gg
namespace Go.Gg
def kP (k:Int) (n:Nat):Bool:=if k=0 then decide (n=0) else if k=1 then decide (n=1) else decide (1<=n/\n<=16)
def kD (f:GFormula) (i:Nat):Int:=
 if (at' f.Nodes (i:Int)).Kind<0\/5<(at' f.Nodes (i:Int)).Kind then 7
 else if kP (at' f.Nodes (i:Int)).Kind (at' f.Nodes (i:Int)).Args.length=false then 11
 else if ∃j<(at' f.Nodes (i:Int)).Args.length,at' (at' f.Nodes (i:Int)).Args (j:Int)<0\/f.Vars+i<=at' (at' f.Nodes (i:Int)).Args (j:Int) then 10
 else if (at' f.Nodes (i:Int)).Kind=0 then (if (at' f.Nodes (i:Int)).K≠0/\(at' f.Nodes (i:Int)).K≠1 then 3 else 0)
 else if (at' f.Nodes (i:Int)).Kind=4 then (if (at' f.Nodes (i:Int)).K<1\/((at' f.Nodes (i:Int)).Args.length:Int)<(at' f.Nodes (i:Int)).K then 3 else 0)
 else if (at' f.Nodes (i:Int)).K≠0 then 2 else 0
def m7 (f:GFormula) (a:Int):Bool:=decide (0<=f.Vars/\0<=a/\(a<f.Vars\/a-f.Vars<f.Nodes.length))
def sT (f:GFormula):Int:=
 if f.Vars<0\/24<f.Vars then 3 else if 128<f.Nodes.length then 4
 else if h9 (kD f) f.Nodes.length≠0 then h9 (kD f) f.Nodes.length
 else if m7 f f.Top=false then 10 else 0
theorem sW {k:Int} {n:Nat} (h:kP k n=true):n<=16:=by
 unfold kP at h
 split at h
 ·simp at h;omega
 ·split at h
  ·simp at h;omega
  ·simp at h;omega
theorem lv {k:Int} {n:Nat} {Q:Bool->Prop} (h:Q (kP k n)):fk k n Q:=by
 unfold kP at h
 refine ce (λhc=>?_) (λhc=>ce (λhc1=>?_) (λhc1=>condT (λh1=>?_) (λh1=>?_)))
 ·rw[if_pos hc] at h
  rw[show((n:Int) == 0)=decide (n=0) by rw[Bool.eq_iff_iff];simp];exact h
 ·rw[if_neg hc,if_pos hc1] at h
  rw[show((n:Int) == 1)=decide (n=1) by rw[Bool.eq_iff_iff];simp;omega];exact h
 ·rw[if_neg hc,if_neg hc1] at h
  rw[show decide ((n:Int)<=16)=decide (1<=n/\n<=16) from decide_eq_decide.2 om];exact h
 ·rw[if_neg hc,if_neg hc1,decide_eq_false om] at h;exact h
theorem ls {f:GFormula} {i:Nat} {Q:Option Int->Prop} (hi:i<f.Nodes.length) (hV:0<=f.Vars/\f.Vars<=24) (hn:f.Nodes.length<=128) (h:Q (nB (kD f i))):fj f i Q:=by
 unfold kD at h
 refine⟨⟨by omega,by omega⟩,λy=>y=decide ((at' f.Nodes (i:Int)).Kind<0\/5<(at' f.Nodes (i:Int)).Kind),?_,?_⟩
 ·exact condT (λhc=>(decide_eq_true (Or.inl hc)).symm) (λhc=>decide_eq_decide.2 ⟨Or.inr,λhh=>hh.resolve_left hc⟩)
 rintro _ rfl
 refine condT (λhc=>?_) (λhc=>?_)
 ·rw[if_pos hc] at h;exact h
 rw[if_neg hc] at h
 refine lv (bS (λhb=>?_) (λhb=>?_))
 ·rw[if_pos (by simpa using hb)] at h;exact h
 simp only[Bool.not_eq_false'] at hb
 rw[if_neg (by rw[hb];simp)] at h
 have hl:=sW hb
 refine i8 (λj=>at' (at' f.Nodes (i:Int)).Args (j:Int)<0\/f.Vars+i<=at' (at' f.Nodes (i:Int)).Args (j:Int)) om (λj next hj hI hnx=>?_) (λhall=>?_)
 ·refine⟨⟨by omega,by omega⟩,λy=>y=decide (at' (at' f.Nodes (i:Int)).Args (j:Int)<0\/f.Vars+i<=at' (at' f.Nodes (i:Int)).Args (j:Int)),?_,?_⟩
  ·exact condT (λhc2=>(decide_eq_true (Or.inl hc2)).symm) (λhc2=>⟨by unfold rng;omega,decide_eq_decide.2 ⟨Or.inr,λhh=>hh.resolve_left hc2⟩⟩)
  ·rintro _ rfl
   refine condT (λhb2=>?_) (λhb2=>hnx hb2)
   rw[if_pos ⟨j,hj,hb2⟩] at h;exact h
 rw[if_neg (by rintro⟨j,hj,hb2⟩;exact hall j hj hb2)] at h
 refine ce (λh0=>?_) (λh0=>?_)
 ·rw[if_pos h0] at h
  refine⟨λy=>y=decide ((at' f.Nodes (i:Int)).K≠0/\(at' f.Nodes (i:Int)).K≠1),?_,?_⟩
  ·refine dz (λhk=>?_) (λhk=>?_)
   ·show((at' f.Nodes (i:Int)).K != 1)=_
    rw[Bool.eq_iff_iff];simp[hk]
   ·rw[decide_eq_false (λhh=>hh.1 hk)]
  ·rintro _ rfl
   refine condT (λhk=>?_) (λhk=>?_)
   ·rw[if_pos hk] at h;exact h
   ·rw[if_neg hk] at h;exact h
 rw[if_neg h0] at h
 refine ce (λh4=>?_) (λh4=>?_)
 ·rw[if_pos h4] at h
  refine⟨λy=>y=decide ((at' f.Nodes (i:Int)).K<1\/((at' f.Nodes (i:Int)).Args.length:Int)<(at' f.Nodes (i:Int)).K),?_,?_⟩
  ·exact condT (λhk=>(decide_eq_true (Or.inl hk)).symm) (λhk=>decide_eq_decide.2 ⟨Or.inr,λhh=>hh.resolve_left hk⟩)
  ·rintro _ rfl
   refine condT (λhk=>?_) (λhk=>?_)
   ·rw[if_pos hk] at h;exact h
   ·rw[if_neg hk] at h;exact h
 rw[if_neg h4] at h
 refine dz (λhk=>?_) (λhk=>?_)
 ·rw[if_pos hk] at h;exact h
 ·rw[if_neg (λhh=>hh hk)] at h;exact h
theorem q8 {f:GFormula} {i:Nat} {Q:Int->Prop} (hi:i<f.Nodes.length) (hV:0<=f.Vars/\f.Vars<=24) (hn:f.Nodes.length<=128) (h:Q (kD f i)):jR f i Q:=by
 unfold kD at h
 have hf7:((at' f.Nodes (i:Int)).Kind≠0/\(at' f.Nodes (i:Int)).Kind≠1/\(at' f.Nodes (i:Int)).Kind≠2/\(at' f.Nodes (i:Int)).Kind≠3/\(at' f.Nodes (i:Int)).Kind≠4/\(at' f.Nodes (i:Int)).Kind≠5)->Q 7:=λhh=>by
  rw[if_pos om] at h;exact h
 refine⟨⟨by omega,by omega⟩,λy=>(0<=(at' f.Nodes (i:Int)).Kind/\(at' f.Nodes (i:Int)).Kind<=5)/\(0<=y.1/\y.1<=1/\0<=y.2/\y.2<=16)/\∀n:Nat,kP (at' f.Nodes (i:Int)).Kind n=decide (y.1<=n/\(n:Int)<=y.2),?_,?_⟩
 ·have hbig:∀n:Nat,(at' f.Nodes (i:Int)).Kind≠0->(at' f.Nodes (i:Int)).Kind≠1->kP (at' f.Nodes (i:Int)).Kind n=decide ((1:Int)<=n/\(n:Int)<=16):=λn h0 h1=>by
   rw[kP,if_neg h0,if_neg h1];exact decide_eq_decide.2 om
  refine ce (λh0:(at' f.Nodes (i:Int)).Kind=0=>⟨by omega,by decide,λn=>by rw[kP,if_pos h0];exact decide_eq_decide.2 (by dsimp only;omega)⟩) (λh0=>ce (λh1:(at' f.Nodes (i:Int)).Kind=1=>⟨by omega,by decide,λn=>by rw[kP,if_neg h0,if_pos h1];exact decide_eq_decide.2 (by dsimp only;omega)⟩) (λh1=>?_))
  exact ce (λh2:(at' f.Nodes (i:Int)).Kind=2=>⟨by omega,by decide,λn=>hbig n h0 h1⟩) (λh2=>ce (λh3:(at' f.Nodes (i:Int)).Kind=3=>⟨by omega,by decide,λn=>hbig n h0 h1⟩) (λh3=>ce (λh4:(at' f.Nodes (i:Int)).Kind=4=>⟨by omega,by decide,λn=>hbig n h0 h1⟩) (λh4=>ce (λh5:(at' f.Nodes (i:Int)).Kind=5=>⟨by omega,by decide,λn=>hbig n h0 h1⟩) (λh5=>hf7 ⟨h0,h1,h2,h3,h4,h5⟩))))
 rintro⟨lo,hi2⟩ ⟨hkind,hb,hargs⟩
 dsimp only at hb hargs
 rw[if_neg om] at h
 refine condT (λ(hc:((at' f.Nodes (i:Int)).Args.length:Int)<lo)=>?_) (λ(hc:¬((at' f.Nodes (i:Int)).Args.length:Int)<lo)=>condT (λ(hc2:hi2<((at' f.Nodes (i:Int)).Args.length:Int))=>?_) (λ(hc2:¬hi2<((at' f.Nodes (i:Int)).Args.length:Int))=>?_))
 ·rw[if_pos (by rw[hargs];exact decide_eq_false om)] at h;exact h
 ·rw[if_pos (by rw[hargs];exact decide_eq_false om)] at h;exact h
 rw[if_neg (by rw[hargs,decide_eq_true om];simp)] at h
 refine i8 (n:=(at' f.Nodes (i:Int)).Args.length) (λj=>at' (at' f.Nodes (i:Int)).Args (j:Int)<0\/f.Vars+i<=at' (at' f.Nodes (i:Int)).Args (j:Int)) om (λj next hj hI hnx=>?_) (λhall=>?_)
 ·refine⟨⟨by omega,show(j:Int)<((at' f.Nodes (i:Int)).Args.length:Int) by omega⟩,condT (λhc3=>?_) (λhc3=>⟨by unfold rng;omega,condT (λhc4=>?_) (λhc4=>hnx (by rw[not_or];exact⟨hc3,hc4⟩))⟩)⟩
  ·rw[if_pos ⟨j,hj,Or.inl hc3⟩] at h;exact h
  ·rw[if_pos ⟨j,hj,Or.inr hc4⟩] at h;exact h
 rw[if_neg (by rintro⟨j,hj,hb2⟩;exact hall j hj hb2)] at h
 refine ce (λh0=>?_) (λh0=>?_)
 ·rw[if_pos h0] at h
  refine dz (λhk=>dz (λhk1=>?_) (λhk1=>?_)) (λhk=>?_)
  ·rw[if_pos ⟨hk,hk1⟩] at h;exact h
  ·rw[if_neg (λhh=>hh.2 hk1)] at h;exact h
  ·rw[if_neg (λhh=>hh.1 hk)] at h;exact h
 rw[if_neg h0] at h
 refine ce (λh4=>?_) (λh4=>?_)
 ·rw[if_pos h4] at h
  refine condT (λhk=>?_) (λhk=>condT (λhk2=>?_) (λhk2=>?_))
  ·rw[if_pos (Or.inl hk)] at h;exact h
  ·rw[if_pos (Or.inr hk2)] at h;exact h
  ·rw[if_neg (by rw[not_or];exact⟨hk,hk2⟩)] at h;exact h
 rw[if_neg h4] at h
 refine dz (λhk=>?_) (λhk=>?_)
 ·rw[if_pos hk] at h;exact h
 ·rw[if_neg (λhh=>hh hk)] at h;exact h
theorem j8 {f:GFormula} {a:Int} {Q:Bool->Prop} (ha:rng a) (h:Q (m7 f a)):hY f a Q:=by
 unfold m7 at h
 unfold rng at ha
 refine condT (λh1=>condT (λh2=>condT (λh3=>?_) (λh3=>⟨by unfold rng;omega,?_⟩)) (λh2=>?_)) (λh1=>?_)
 ·rw[decide_eq_true ⟨h1,h2,Or.inl h3⟩] at h;exact h
 ·rw[show decide (a-f.Vars<(f.Nodes.length:Int))=decide (0<=f.Vars/\0<=a/\(a<f.Vars\/a-f.Vars<f.Nodes.length)) from decide_eq_decide.2 om];exact h
 ·rw[decide_eq_false (λhh=>h2 hh.2.1)] at h;exact h
 ·rw[decide_eq_false (λhh=>h1 hh.1)] at h;exact h
theorem p8 {f:GFormula} {a:Int} {Q:Bool->Prop} (ha:rng a) (h:Q (m7 f a)):jl f a Q:=j8 ha h
theorem sL {e:Int}:(nB e).isSome=decide (e≠0):=by
 unfold nB
 by_cases h:e=0
 ·rw[if_pos h,decide_eq_false (λhh=>hh h)];rfl
 ·rw[if_neg h,decide_eq_true h];rfl
theorem ov {f:GFormula} {Q:Option Int->Prop} (ht:rng f.Top) (h:Q (nB (sT f))):hZ f Q:=by
 unfold sT at h
 refine⟨λy=>y=decide (f.Vars<0\/24<f.Vars),?_,?_⟩
 ·exact condT (λhc=>(decide_eq_true (Or.inl hc)).symm) (λhc=>decide_eq_decide.2 ⟨Or.inr,λhh=>hh.resolve_left hc⟩)
 rintro _ rfl
 refine condT (λhc=>?_) (λhc=>?_)
 ·rw[if_pos hc] at h;exact h
 rw[if_neg hc] at h
 refine condT (λhc2=>?_) (λhc2=>?_)
 ·rw[if_pos om] at h;exact h
 rw[if_neg om] at h
 refine i8 (λi=>kD f i≠0) om (λi next hi hI hnx=>?_) (λhall=>?_)
 ·refine ls hi om om ?_
  rw[sL]
  refine condT (λhe=>?_) (λhe=>hnx he)
  rw[eN (λj hj=>Decidable.not_not.1 (hI j hj)) he _ hi,if_pos he] at h
  exact h
 ·rw[if_neg (λhh=>hh (cr.2 λj hj=>Decidable.not_not.1 (hall j hj)))] at h
  refine j8 ht (bS (λhb=>?_) (λhb=>?_))
  ·rw[if_pos (by simpa using hb)] at h;exact h
  ·rw[if_neg (by simpa using hb)] at h;exact h
theorem p9 {f:GFormula} {Q:Int->Prop} (ht:rng f.Top) (h:Q (sT f)):jm f Q:=by
 unfold sT at h
 refine condT (λhc=>?_) (λhc=>condT (λhc1=>?_) (λhc1=>?_))
 ·rw[if_pos (Or.inl hc)] at h;exact h
 ·rw[if_pos (Or.inr hc1)] at h;exact h
 rw[if_neg om] at h
 refine condT (λhc2=>?_) (λhc2=>?_)
 ·rw[if_pos om] at h;exact h
 rw[if_neg om] at h
 refine i8 (λi=>kD f i≠0) om (λi next hi hI hnx=>?_) (λhall=>?_)
 ·refine q8 hi om om (dz (λhe=>?_) (λhe=>hnx (λhh=>hh he)))
  rw[eN (λj hj=>Decidable.not_not.1 (hI j hj)) he _ hi,if_pos he] at h
  exact h
 ·rw[if_neg (λhh=>hh (cr.2 λj hj=>Decidable.not_not.1 (hall j hj)))] at h
  refine p8 ht (bS (λhb=>?_) (λhb=>?_))
  ·rw[if_pos (by simpa using hb)] at h;exact h
  ·rw[if_neg (by simpa using hb)] at h;exact h
structure FG (f:GFormula):Prop where
 v0:0<=f.Vars
 v24:f.Vars<=24
 n128:f.Nodes.length<=128
 node:∀i,i<f.Nodes.length->kD f i=0
 top0:0<=f.Top
 top:f.Top<f.Vars+f.Nodes.length
theorem yw {f:GFormula}:sT f=0↔FG f:=by
 unfold sT
 constructor
 ·intro h
  split at h
  ·cases h
  split at h
  ·cases h
  split at h
  ·rename_i h3;exact absurd h h3
  split at h
  ·cases h
  rename_i h1 h2 h3 h4
  rw[Decidable.not_not] at h3
  have h5:=cr.1 h3
  simp only[m7,Bool.not_eq_false,decide_eq_true_eq] at h4
  exact⟨by omega,by omega,by omega,h5,by omega,by omega⟩
 ·intro h
  rw[if_neg (by have:=h.v0;have:=h.v24;omega),if_neg (by have:=h.n128;omega),if_neg (λhh=>hh (cr.2 h.node)),if_neg]
  have:=h.v0;have:=h.top0;have:=h.top
  simp only[m7,Bool.not_eq_false,decide_eq_true_eq]
  omega
structure NG (f:GFormula) (i:Nat):Prop where
 k0:0<=(at' f.Nodes (i:Int)).Kind
 k5:(at' f.Nodes (i:Int)).Kind<=5
 len:(at' f.Nodes (i:Int)).Args.length<=16
 arg:∀j:Nat,j<(at' f.Nodes (i:Int)).Args.length->0<=at' (at' f.Nodes (i:Int)).Args (j:Int)/\at' (at' f.Nodes (i:Int)).Args (j:Int)<f.Vars+i
 args:kP (at' f.Nodes (i:Int)).Kind (at' f.Nodes (i:Int)).Args.length=true
theorem po {f:GFormula} {i:Nat} (h:kD f i=0):NG f i:=by
 unfold kD at h
 split at h
 ·cases h
 split at h
 ·cases h
 split at h
 ·cases h
 rename_i h1 h2 h3
 refine⟨by omega,by omega,sW (by simpa using h2),λj hj=>?_,by simpa using h2⟩
 rw[not_exists] at h3
 have:=h3 j
 simp only[hj,true_and,not_or] at this
 omega
end Go.Gg
namespace Go.Gg
theorem pP {y:Int} (h0:0<=y) (h1:y<4294967296):bits .and .i64 y 1=y % 2:=by
 obtain⟨m,rfl⟩:=Int.eq_ofNat_of_zero_le h0
 show IntKind.i64.wrap (((BitVec.ofInt 64 (m:Int)) &&& (BitVec.ofInt 64 1)).toNat:Int)=_
 rw[BitVec.toNat_and,BitVec.toNat_ofInt,BitVec.toNat_ofInt]
 have e1:((m:Int) % ((2^64:Nat):Int)).toNat=m:=om
 have e2:((1:Int) % ((2^64:Nat):Int)).toNat=1:=om
 rw[e1,e2,Nat.and_one_is_mod]
 have e3:m % 2=0\/m % 2=1:=om
 have e4:(m:Int) % 2=((m % 2:Nat):Int):=om
 rw[e4]
 rcases e3 with e | e<;>rw[e]<;>rfl
def inS (s i:Nat):Bool:=decide (s / 2^i % 2=1)
theorem wH {s k:Nat} (hx:s<4294967296):(bits .and .i64 ((s:Int) / 2^(Int.toNat (k:Int))) 1 == 1)=inS s k:=by
 have e:((s:Int) / 2^(Int.toNat (k:Int)))=((s / 2^k:Nat):Int):=by rw[Int.toNat_natCast];simp
 have:=Nat.div_le_self s (2^k)
 unfold inS
 rw[e]
 generalize s / 2^k=z at this
 rw[pP om om,Bool.eq_iff_iff]
 simp only[beq_iff_eq,decide_eq_true_eq]
 omega
end Go.Gg
namespace Go.Gg
end Go.Gg
namespace Go.Gg
theorem y_:(2:Nat)^62=4611686018427387904:=rfl
theorem xq {s i:Nat}:inS s i=s.testBit i:=by rw[inS,Nat.testBit_eq_decide_div_mod_eq]
theorem yS {n:Nat} (h:n<62):2^n<2^62:=Nat.pow_lt_pow_right om h
theorem tk {n:Nat} (h:n<62):((0:Int)<=(n:Int)/\(n:Int)<=64)/\rng (1*2^(Int.toNat (n:Int))):=by
 refine⟨by omega,?_⟩
 have e:(1*2^(Int.toNat (n:Int)):Int)=((2^n:Nat):Int):=by simp
 have h1:=yS h
 rw[y_] at h1
 rw[e]
 generalize 2^n=z at h1 ⊢
 unfold rng;omega
end Go.Gg
