/- Lemmas that this seat's other texts need. Conditions: none. -/
import Derived.KernelRfl
import Derived.Test.YtnjgdkfhgmebjaaGc
import Derived.Test.YtnjgdkfhgmebjaaGd2
import Derived.Test.YtnjgdkfhgmebjaaWa
namespace Go.Gg
deriving instance DecidableEq for GRat
theorem lK (l:List Int) (i:Int):at' l i=l.getD i.toNat 0:=rfl
theorem dV (l:List Int) (i:Nat):at' l (i:Int)=l.getD i 0:=rfl
theorem dk {α:Type} (l:List α) (i:Nat) (x:α):b6 l (i:Int) x=l.set i x:=rfl
theorem mI {α:Type} (n:Nat) (x:α):ek (n:Int) x=List.replicate n x:=rfl
theorem v9 {α:Type} {f:(α->Prop)->Prop} {k:α->Prop} (h:f k):c6 f k:=⟨k,h,λ_ h=>h⟩
theorem e8 {α:Type} {e:α} {k:α->Prop} (h:k e):gX e k:=λ_ hv=>hv▸h
theorem condT {c:Prop} [Decidable c] {a b:Prop} (h1:c->a) (h2:¬c->b):ah (decide c) a b:=⟨λh=>h1 (of_decide_eq_true h),λh=>h2 (of_decide_eq_false h)⟩
theorem c7 {α:Type} [DecidableEq α] {x y:α} {a b:Prop} (h1:x=y->a) (h2:x≠y->b):ah (x == y) a b:=⟨λh=>h1 (by simpa using h),λh=>h2 (by simpa using h)⟩
theorem fI {α:Type} [DecidableEq α] {x y:α} {a b:Prop} (h1:x≠y->a) (h2:x=y->b):ah (x != y) a b:=⟨λh=>h1 (by simpa using h),λh=>h2 (by simpa using h)⟩
theorem kJ {b:Nat} {n:Nat} (hb:b<=200) (h:n<=1099511627776):lz b (n:Int) (n:Int):=⟨by omega,Int.le_refl _,by
 have:(b:Int)*(n:Int)<=200*1099511627776:=Int.mul_le_mul om om om om
 omega,by omega⟩
abbrev SM (l:List Int):Prop:=l.length<=1099511627776
theorem cq {a:List Int} {i:Nat} {Q:Int->Prop} (hw:Words a) (h:Q (a.getD i 0)):bO a (i:Int) Q:=by
 refine condT (λhc=>⟨⟨by omega,hc⟩,?_⟩) (λhc=>?_)
 ·rw[dV]
  have:=hw i
  rw[wrap_u64_id om om]
  exact h
 ·rw[jC om] at h
  exact h
theorem bp {a:List Int} {Q:List Int->Prop} (hw:Words a) (hl:SM a) (h:Q (lim (val a))):bi a Q:=by
 refine⟨λn=>∃j:Nat,n=j/\j<=a.length/\(∀i,j<=i->i<a.length->a.getD i 0=0)/\(0<j->a.getD (j-1) 0≠0),?_,?_⟩
 ·refine⟨λn=>∃j:Nat,n=j/\j<=a.length/\(∀i,j<=i->i<a.length->a.getD i 0=0),λn=>n.toNat,⟨a.length,rfl,Nat.le_refl _,λi h1 h2=>om⟩,?_⟩
  rintro n ⟨j,rfl,hj,hz⟩
  refine condT (λhc=>⟨by unfold rng;omega,⟨by omega,by omega⟩,c7 (λhe=>⟨by unfold rng;omega,⟨j-1,by omega,by omega,λi h1 h2=>?_⟩,by dsimp only;omega⟩) (λhe=>⟨j,rfl,hj,hz,λ_=>?_⟩)⟩) (λhc=>⟨j,rfl,hj,hz,λh0=>om⟩)
  ·by_cases hi:i=j-1
   ·subst hi
    rw[lK] at he
    have:((j:Int)-1).toNat=j-1:=om
    rwa[this] at he
   ·exact hz i om h2
  ·rw[lK] at he
   have:((j:Int)-1).toNat=j-1:=om
   rwa[this] at he
 ·rintro n ⟨j,rfl,hj,hz,hlast⟩
  have e:=kK hw hj hz hlast
  refine c7 (λhc=>?_) (λhc=>⟨⟨by omega,by omega,by omega⟩,?_,?_⟩)
  ·obtain rfl:j=0:=om
   rw[<-e] at h
   exact h
  ·simp[eh]
   have:min j a.length<=a.length:=om
   omega
  ·rw[<-e] at h
   simpa[eh] using h
theorem dx {a b:List Int} {Q:Int->Prop} (ha:Words a) (hb:Words b) (la:SM a) (lb:SM b) (h:Q (iR (val a) (val b))):cm a b Q:=by
 refine bp ha la (bp hb lb ?_)
 have b1:=cB ha
 have b2:=cB hb
 have w1:=ap (val a)
 have w2:=ap (val b)
 have v1:=bs w1
 have v2:=bs w2
 rw[aK] at v1 v2
 generalize hA:lim (val a)=A at *
 generalize hB:lim (val b)=B at *
 have hlt:A.length<B.length->val a<val b:=λh=>by
  rw[<-hA,<-hB] at h
  rcases Nat.lt_or_ge (val a) (val b) with h' | h'
  ·exact h'
  ·have:=cn h'
   omega
 have hgt:B.length<A.length->val b<val a:=λh=>by
  rw[<-hA,<-hB] at h
  rcases Nat.lt_or_ge (val b) (val a) with h' | h'
  ·exact h'
  ·have:=cn h'
   omega
 unfold SM at la lb
 refine fI (λhc=>condT (λh1=>?_) (λh1=>?_)) (λhc=>⟨by unfold rng;omega,?_⟩)
 ·rw[iR,if_pos (hlt om)] at h;exact h
 ·have:=hgt om
  rw[iR,if_neg om,if_neg om] at h;exact h
 ·have hlen:A.length=B.length:=om
  refine⟨λi=>∃j:Nat,i=(j:Int)-1/\j<=A.length/\(∀k,j<=k->k<A.length->A.getD k 0=B.getD k 0),λi=>(i+1).toNat,⟨A.length,rfl,Nat.le_refl _,λk h1 h2=>om⟩,?_⟩
  rintro i ⟨j,rfl,hj,he⟩
  have hj1:((j:Int)-1).toNat=j-1:=om
  refine condT (λhc=>⟨⟨by omega,by omega⟩,⟨by omega,by omega⟩,?_⟩) (λhc=>?_)
  ·rw[lK,lK,hj1]
   refine condT (λh1=>?_) (λh1=>⟨⟨by omega,by omega⟩,⟨by omega,by omega⟩,condT (λh2=>?_) (λh2=>⟨by unfold rng;omega,⟨j-1,by omega,by omega,λk h3 h4=>?_⟩,by dsimp only;omega⟩)⟩)
   ·have:=ra w1 w2 (i:=j-1) (n:=A.length) om h1 (λk h1 h2=>he k om h2)
    rw[<-hlen] at v2
    rw[iR,if_pos om] at h;exact h
   ·have:=ra w2 w1 (i:=j-1) (n:=A.length) om h2 (λk h1 h2=>(he k om h2).symm)
    rw[<-hlen] at v2
    rw[iR,if_neg om,if_neg om] at h;exact h
   ·by_cases hk:k=j-1
    ·subst hk;omega
    ·exact he k om h4
  ·have:=fG (l:=A) (m:=B) A.length (λk hk=>he k om hk)
   rw[<-hlen] at v2
   rw[iR,if_neg om,if_pos om] at h;exact h
theorem n3 {a b:List Int} {Q:List Int->Prop} (ha:Words a) (hb:Words b) (la:SM a) (lb:a.length<=1099511627775/\b.length<=1099511627775) (h:Q (lim (val a+val b))):fv a b Q:=by
 unfold SM at la
 obtain⟨n,hn0⟩:∃n,n=max a.length b.length+1:=⟨_,rfl⟩
 have hn:max (a.length:Int) (b.length:Int)+1=(n:Int):=om
 unfold fv
 rw[hn]
 refine⟨by unfold rng;omega,kJ om om,?_⟩
 rw[Int.toNat_natCast]
 refine⟨λy=>∃i:Nat,y.2.1=i/\i<=n/\y.2.2.length=n/\Words y.2.2/\0<=y.1/\y.1<=1/\pv y.2.2 i+y.1*4294967296^i=pv a i+pv b i,λy=>n-y.2.1.toNat,⟨0,rfl,by omega,by simp[ek],Words.rep n,by omega,by omega,by simp[pv]⟩,?_⟩
 rintro⟨c,x,out⟩ ⟨i,hx,hi,hlen,hw,hc0,hc1,hpv⟩
 simp only at hx hi hlen hw hc0 hc1 hpv
 subst hx
 have hxl:=ha i
 have hxm:=hb i
 refine condT (λhlt=>?_) (λhge=>?_)
 ·refine cq ha (cq hb (e8 ⟨⟨by omega,by omega⟩,by unfold rng;omega,?_,?_⟩))
  ·simp (disch:=omega) only[dk,wrap_u64_id,wrap_u32]
   refine⟨i+1,by omega,by omega,by simp[hlen],hw.set _ om om,by show 0<=_ / 4294967296;omega,by show _ / 4294967296<=1;omega,?_⟩
   show pv (out.set i _) (i+1)+_ / 4294967296*_=_
   rw[nf om,Int.pow_succ,pv,pv,Int.add_assoc,iF]
   have:=Int.add_mul c (a.getD i 0+b.getD i 0) (4294967296^i)
   have:=Int.add_mul (a.getD i 0) (b.getD i 0) (4294967296^i)
   omega
  ·show n-((i:Int)+1).toNat<n-(i:Int).toNat
   omega
 ·obtain rfl:i=n:=om
  refine bp hw (by unfold SM;omega) ?_
  have e:val out=val a+val b:=by
   have a1:=c8 hw (i:=i) om
   have a2:=c8 ha (i:=i) om
   have a3:=c8 hb (i:=i) om
   have b2:=l6 (l:=a) (i-1) om
   have b3:=l6 (l:=b) (i-1) om
   have b4:=l6 (l:=a) i om
   have b5:=l6 (l:=b) i om
   have c2:=(aV ha (i-1)).2
   have c3:=(aV hb (i-1)).2
   have hi1:i=i-1+1:=om
   have hc:=hpv
   rw[hi1,Int.pow_succ,<-hi1] at hc
   have:=qM hc om om om hc0 hc1 (c_ _)
   subst this
   omega
  rw[e]
  exact h
theorem jO {a b:List Int} {Q:List Int->Option Int->Prop} (ha:Words a) (hb:Words b) (la:SM a) (lb:SM b) (h1:val a<val b->Q [] (some 3)) (h2:val b<=val a->Q (lim (val a-val b)) none):ft a b Q:=by
 refine dx ha hb la lb (condT (λhc=>h1 (iQ.1 hc)) (λhc=>⟨kJ om la,?_⟩))
 have hge:val b<=val a:=by have:=mt iQ.2 hc;omega
 have h:=h2 hge
 clear h1 h2
 unfold SM at la lb
 rw[Int.toNat_natCast]
 refine⟨λy=>∃i:Nat,y.2.1=i/\i<=a.length/\y.2.2.length=a.length/\Words y.2.2/\0<=y.1/\y.1<=1/\pv y.2.2 i=pv a i-pv b i+y.1*4294967296^i,λy=>a.length-y.2.1.toNat,⟨0,rfl,by omega,by simp[ek],Words.rep _,by omega,by omega,by simp[pv]⟩,?_⟩
 rintro⟨c,x,out⟩ ⟨i,hx,hi,hlen,hw,hb0,hb1,hpv⟩
 simp only at hx hi hlen hw hb0 hb1 hpv
 subst hx
 have hxl:=ha i
 have hxm:=hb i
 obtain⟨q1,q2,q3⟩:=mR (a.getD i 0) (b.getD i 0) c hxl hxm ⟨hb0,hb1⟩
 refine condT (λhlt=>cq ha (cq hb (e8 ⟨⟨by omega,by omega⟩,by unfold rng;omega,?_,by dsimp only;omega⟩))) (λhge=>?_)
 ·simp only[dk,wrap_u32]
  generalize IntKind.u64.wrap (IntKind.u64.wrap (a.getD i 0-b.getD i 0)-c)=d at *
  have e63:d / 2^Int.toNat 63=d / 9223372036854775808:=rfl
  refine⟨i+1,by omega,by omega,by simp[hlen],hw.set _ om om,by simpa only[e63] using q2,by simpa only[e63] using q3,?_⟩
  simp only[e63]
  rw[nf om,Int.pow_succ,pv,pv,hpv]
  have e:d % 4294967296=a.getD i 0-b.getD i 0-c+4294967296*(d / 9223372036854775808):=om
  rw[e]
  generalize d / 9223372036854775808=d'
  have a1:=Int.add_mul (a.getD i 0-b.getD i 0-c) (4294967296*d') (4294967296^i)
  have a2:=Int.sub_mul (a.getD i 0-b.getD i 0) c (4294967296^i)
  have a3:=Int.sub_mul (a.getD i 0) (b.getD i 0) (4294967296^i)
  have a4:4294967296*d'*4294967296^i=d'*(4294967296^i*4294967296):=by rw[Int.mul_comm 4294967296 d',Int.mul_assoc,Int.mul_comm 4294967296]
  omega
 ·obtain rfl:i=a.length:=om
  refine bp hw (by unfold SM;omega) ?_
  have e:val out=val a-val b:=by
   have a1:=c8 hw (i:=a.length) om
   have a2:=bs ha
   have a3:=aV ha a.length
   have a4:=aV hw a.length
   have a5:=aV hb a.length
   have a6:=bs hb
   rcases Nat.lt_or_ge a.length b.length with h | h
   ·have hm1:=jy hb (Nat.le_of_lt h)
    rcases (by omega:c=0\/c=1) with rfl | rfl
    ·
     have hz:pv b b.length=pv b a.length:=by
      refine kC hb (Nat.le_of_lt h) ?_
      omega
     omega
    ·omega
   ·have hm1:=c8 hb h
    rcases (by omega:c=0\/c=1) with rfl | rfl<;>omega
  rw[e]
  exact h
theorem cY {a b:List Int} {Q:List Int->Prop} (ha:Words a) (hb:Words b) (la:a.length+b.length<=1099511627776) (h:Q (lim (val a*val b))):bY a b Q:=by
 obtain⟨N,hN⟩:∃N,N=a.length+b.length:=⟨_,rfl⟩
 have hNi:(a.length:Int)+(b.length:Int)=(N:Int):=om
 unfold bY
 rw[hNi]
 refine⟨by unfold rng;omega,kJ om om,?_⟩
 refine⟨λy=>∃i:Nat,y.1=i/\i<=a.length/\y.2.length=N/\Words y.2/\(∀p,i+b.length<=p->y.2.getD p 0=0)/\pv y.2 N=pv a i*pv b b.length,λy=>a.length-y.1.toNat,
  ⟨0,rfl,by omega,by simp[ek],Words.rep _,λp hp=>by rw[mI,List.getD_eq_getElem?_getD,List.getElem?_replicate];split<;>rfl,by rw[mI,j4];simp[pv]⟩,?_⟩
 rintro⟨x,out⟩ ⟨i,hx,hi,hlen,hw,hz,hpv⟩
 simp only at hx hi hlen hw hz hpv
 subst hx
 have hxi:=ha i
 refine condT (λhlt=>⟨⟨by omega,hlt⟩,?_⟩) (λhge=>?_)
 ·refine⟨λy=>∃k:Nat,y.2.1=k/\k<=b.length/\y.2.2.length=N/\Words y.2.2/\(∀p,i+b.length<=p->y.2.2.getD p 0=0)/\0<=y.1/\y.1<4294967296/\
    pv y.2.2 N+y.1*4294967296^(i+k)=pv a i*pv b b.length+a.getD i 0*4294967296^i*pv b k,λy=>b.length-y.2.1.toNat,
   ⟨0,rfl,by omega,hlen,hw,hz,by omega,by omega,by simp[pv,hpv]⟩,?_⟩
  clear hpv hz hw hlen h
  rintro⟨c,x1,out2⟩ ⟨k,hx,hk,hlen,hw,hz,hc0,hc1,hpv⟩
  simp only at hx hk hlen hw hz hc0 hc1 hpv
  subst hx
  have hy:=hb k
  have ho:=hw (i+k)
  obtain⟨q1,q2⟩:=pT hxi hy
  have eik:(i:Int)+(k:Int)=((i+k:Nat):Int):=om
  have eib:(i:Int)+(b.length:Int)=((i+b.length:Nat):Int):=om
  refine condT (λhlt2=>⟨⟨by omega,hlt2⟩,by unfold rng;omega,⟨by omega,by omega⟩,e8 ⟨by unfold rng;omega,⟨by omega,by omega⟩,by unfold rng;omega,?_,by dsimp only;omega⟩⟩) (λhge2=>⟨by unfold rng;omega,⟨by omega,by omega⟩,by unfold rng;omega,?_,by dsimp only;omega⟩)
  ·simp only[eik,dV,dk]
   simp (disch:=omega) only[wrap_u64_id,wrap_u32]
   have e32:∀z:Int,z / 2^Int.toNat 32=z / 4294967296:=λ_=>rfl
   simp only[e32]
   generalize hv:c+(a.getD i 0*b.getD k 0+out2.getD (i+k) 0)=v
   refine⟨k+1,by omega,by omega,by simp[hlen],hw.set _ om om,λp hp=>?_,by show 0<=v / 4294967296;omega,by show v / 4294967296<4294967296;omega,?_⟩
   ·show(out2.set (i+k) _).getD p 0=0
    rw[bx om];exact hz p hp
   ·show pv (out2.set (i+k) (v % 4294967296)) N+v / 4294967296*4294967296^(i+(k+1))=_
    rw[dK om N om,pv,<-Nat.add_assoc,Int.pow_succ,Int.mul_add,<-Int.add_assoc,<-hpv]
    have s1:=iF v (4294967296^(i+k))
    have s2:=Int.sub_mul (v % 4294967296) (out2.getD (i+k) 0) (4294967296^(i+k))
    have s3:v*4294967296^(i+k)=c*4294967296^(i+k)+(a.getD i 0*4294967296^i*(b.getD k 0*4294967296^k)+out2.getD (i+k) 0*4294967296^(i+k)):=by
     rw[<-hv,Int.add_mul,Int.add_mul,Int.pow_add]
     congr 2
     rw[Int.mul_assoc,Int.mul_assoc,Int.mul_left_comm (b.getD k 0)]
    omega
  ·obtain rfl:k=b.length:=om
   simp only[eib,dk,wrap_u32]
   have hcm:c % 4294967296=c:=om
   rw[hcm]
   refine⟨i+1,by omega,by omega,by simp[hlen],hw.set _ om om,λp hp=>?_,?_⟩
   ·show(out2.set (i+b.length) c).getD p 0=0
    rw[bx om];exact hz p om
   ·show pv (out2.set (i+b.length) c) N=pv a (i+1)*_
    rw[dK om N om,hz (i+b.length) om,pv,Int.add_mul,Int.sub_zero]
    exact hpv
 ·obtain rfl:i=a.length:=om
  refine bp hw (by unfold SM;omega) ?_
  have e:val out=val a*val b:=by
   have a1:=c8 hw (i:=N) om
   have a2:=bs ha
   have a3:=bs hb
   have:((val a*val b:Nat):Int)=(val a:Int)*(val b:Int):=by simp
   have:(val out:Int)=((val a*val b:Nat):Int):=by rw[this,a1,hpv,a2,a3]
   omega
  rw[e]
  exact h
end Go.Gg
namespace Go.Gg
theorem tk {x y i:Nat} (hx:x<2^i) (hy:2^i ∣ y):y ||| x=y+x:=by
 obtain⟨z,rfl⟩:=hy
 rw[Nat.mul_comm,<-Nat.shiftLeft_eq,Nat.shiftLeft_add_eq_or_of_lt hx]
theorem nj {x y:Int} (i:Nat) (hx:0<=x) (hxi:x<2^i) (hy:0<=y) (hyi:y % 2^i=0) (hs:y+x<18446744073709551616):bits .or .u64 y x=y+x:=by
 obtain⟨m,rfl⟩:=Int.eq_ofNat_of_zero_le hx
 obtain⟨n,rfl⟩:=Int.eq_ofNat_of_zero_le hy
 have h1:m<2^i:=by exact_mod_cast hxi
 have h2:2^i ∣ n:=by
  have:(n:Int) % ((2^i:Nat):Int)=0:=by simpa using hyi
  exact Nat.dvd_of_mod_eq_zero om
 have h3:=tk h1 h2
 show IntKind.u64.wrap (((BitVec.ofInt 64 (n:Int)) ||| (BitVec.ofInt 64 (m:Int))).toNat:Int)=_
 rw[i8,BitVec.toNat_or,BitVec.toNat_ofInt,BitVec.toNat_ofInt]
 have e1:((n:Int) % ((2^64:Nat):Int)).toNat=n:=om
 have e2:((m:Int) % ((2^64:Nat):Int)).toNat=m:=om
 rw[e1,e2,h3]
 omega
theorem oV {x y:Int} (i:Nat) (hx:0<=x) (hxi:x<2^i) (hy:0<=y) (hyi:y % 2^i=0) (hs:y+x<18446744073709551616):bits .or .u64 x y=y+x:=by
 rw[<-nj i hx hxi hy hyi hs]
 show IntKind.u64.wrap (((BitVec.ofInt 64 x) ||| (BitVec.ofInt 64 y)).toNat:Int)=IntKind.u64.wrap (((BitVec.ofInt 64 y) ||| (BitVec.ofInt 64 x)).toNat:Int)
 rw[BitVec.or_comm]
theorem uw {x y:Int} (i:Nat) (hx:0<=x) (hxi:x<2^i) (hy:0<=y) (hyi:y % 2^i=0) (hs:y+x<4294967296):bits .or .u32 x y=y+x:=by
 obtain⟨m,rfl⟩:=Int.eq_ofNat_of_zero_le hx
 obtain⟨n,rfl⟩:=Int.eq_ofNat_of_zero_le hy
 have h1:m<2^i:=by exact_mod_cast hxi
 have h2:2^i ∣ n:=by
  have:(n:Int) % ((2^i:Nat):Int)=0:=by simpa using hyi
  exact Nat.dvd_of_mod_eq_zero om
 have h3:=tk h1 h2
 show IntKind.u32.wrap (((BitVec.ofInt 32 (m:Int)) ||| (BitVec.ofInt 32 (n:Int))).toNat:Int)=_
 rw[wrap_u32,BitVec.toNat_or,BitVec.toNat_ofInt,BitVec.toNat_ofInt]
 have e1:((n:Int) % ((2^32:Nat):Int)).toNat=n:=om
 have e2:((m:Int) % ((2^32:Nat):Int)).toNat=m:=om
 rw[e1,e2,Nat.or_comm,h3]
 omega
def bn (n:Nat):Nat:=if n=0 then 0 else n.log2+1
theorem sr:bn 0=0:=rfl
theorem kR {n:Nat}:n<2^bn n:=by
 unfold bn
 split
 ·omega
 ·exact Nat.lt_log2_self
theorem iS {n:Nat} (h:n≠0):2^(bn n-1)<=n:=by
 unfold bn
 rw[if_neg h]
 exact Nat.log2_self_le h
theorem lI {n k:Nat} (h:n<2^k) (h':k≠0->2^(k-1)<=n):bn n=k:=by
 by_cases h0:n=0
 ·subst h0
  cases k with
  | zero=>rfl
  | succ k=>have:=h' om;have:0<2^k:=Nat.pow_pos om;simp at *
 ·have a:=kR (n:=n)
  have b:=iS h0
  have hk:k≠0:=by rintro rfl;simp at h;omega
  have c:=h' hk
  have hb:bn n≠0:=by unfold bn;rw[if_neg h0];omega
  rcases Nat.lt_trichotomy (bn n) k with hlt | he | hgt
  ·have:2^bn n<=2^(k-1):=Nat.pow_le_pow_right om om
   omega
  ·exact he
  ·have:2^k<=2^(bn n-1):=Nat.pow_le_pow_right om om
   omega
theorem nH {n k:Nat} (h:2^k<=n):bn n=bn (n / 2^k)+k:=by
 have hp:0<2^k:=Nat.pow_pos om
 have hq:n / 2^k≠0:=by have:=Nat.div_pos h hp;omega
 have a:=kR (n:=n / 2^k)
 have b:=iS hq
 have hb:bn (n / 2^k)≠0:=by unfold bn;rw[if_neg hq];omega
 refine lI ?_ (λ_=>?_)
 ·rw[Nat.pow_add]
  rw[Nat.div_lt_iff_lt_mul hp] at a
  exact a
 ·have e:bn (n / 2^k)+k-1=(bn (n / 2^k)-1)+k:=om
  rw[e,Nat.pow_add]
  rw[Nat.le_div_iff_mul_le hp] at b
  exact b
theorem uf:(List.range 256).all (λk=>kg d4 k == (bn k:Int))=true:=by kernel_rfl
theorem vJ {k:Nat} (h:k<256):kg d4 k=(bn k:Int):=by
 have:=List.all_eq_true.1 uf k (by simpa using h)
 simpa using this
theorem sP:d4.size=256:=by kernel_rfl
theorem rp {x:Nat} {Q:Int->Prop} (hx:x<4294967296) (h:Q (bn x)):dE (x:Int) Q:=by
 refine⟨λy=>∃z k:Nat,y=((z:Int),(k:Int))/\z<65536/\k<=16/\bn x=bn z+k,?_,?_⟩
 ·refine condT (λhc=>⟨x / 65536,16,?_,by omega,by omega,?_⟩) (λhc=>⟨x,0,rfl,by omega,by omega,rfl⟩)
  ·show((x:Int) / 65536,(16:Int))=_
   rw[Prod.mk.injEq];exact⟨by omega,rfl⟩
  ·exact nH (k:=16) om
 ·rintro _ ⟨z,k,rfl,hz,hk,hb⟩
  refine⟨λy=>∃z k:Nat,y=((z:Int),(k:Int))/\z<256/\k<=24/\bn x=bn z+k,?_,?_⟩
  ·refine condT (λhc=>⟨by unfold rng;omega,z / 256,k+8,?_,by omega,by omega,?_⟩) (λhc=>⟨z,k,rfl,by omega,by omega,hb⟩)
   ·show((z:Int) / 256,(k:Int)+8)=_
    rw[Prod.mk.injEq];exact⟨by omega,by omega⟩
   ·have h8:=nH (n:=z) (k:=8) om
    have e:z / 2^8=z / 256:=rfl
    rw[e] at h8
    omega
  ·rintro _ ⟨z,k,rfl,hz,hk,hb⟩
   show(_/\_)
   have hw:IntKind.u8.wrap (z:Int)=z:=by rw[wrap_u8];omega
   have hz':(bn z:Int)<=8:=by
    have:bn z<=8:=by
     by_cases h0:z=0
     ·subst h0;simp[bn]
     ·have:=iS h0
      rcases Nat.lt_or_ge 8 (bn z) with h8 | h8
      ·have:2^8<=2^(bn z-1):=Nat.pow_le_pow_right om om
       omega
      ·exact h8
    omega
   rw[hw,sP]
   have e:(Int.toNat (z:Int))=z:=om
   rw[e,vJ hz,fD (by unfold rng;omega)]
   refine⟨⟨by omega,by omega⟩,by unfold rng;omega,e8 ?_⟩
   have:(k:Int)+(bn z:Int)=((bn x:Nat):Int):=om
   rw[this]
   exact h
theorem jE {x:Nat} (hx:x<4294967296):bn x<=32:=by
 by_cases h0:x=0
 ·subst h0;simp[bn]
 ·have:=iS h0
  rcases Nat.lt_or_ge 32 (bn x) with h8 | h8
  ·have:2^32<=2^(bn x-1):=Nat.pow_le_pow_right om om
   omega
  ·exact h8
theorem v8 {x:Nat} {Q:Int->Prop} (hx:x<4294967296) (h:Q ((32-bn x:Nat):Int)):cN (x:Int) Q:=by
 refine rp hx ?_
 have h1:=jE hx
 refine⟨by unfold rng;omega,?_⟩
 have:(32:Int)-(bn x:Int)=((32-bn x:Nat):Int):=om
 rw[this]
 exact h
end Go.Gg
namespace Go.Gg
theorem jv {n:Nat} (h:n<=32):(2:Int)^n*2^(32-n)=4294967296:=by
 rw[<-Int.pow_add]
 have:n+(32-n)=32:=om
 rw[this];rfl
theorem da (n:Nat):(0:Int)<2^n:=Int.pow_pos om
theorem jk {a:List Int} {n:Nat} {Q:List Int->Prop} (ha:Words a) (la:a.length<=1099511627775) (hn:n<=32) (h:∀out,Words out->out.length=a.length+1->val out=val a*2^n->Q out):cM a (n:Int) Q:=by
 have hL:(a.length:Int)+1=((a.length+1:Nat):Int):=om
 unfold cM
 rw[hL]
 have hs:=jv hn
 have hpp:=da n
 have hqp:=da (32-n)
 generalize hp:(2:Int)^n=p at *
 generalize (2:Int)^(32-n)=q at *
 have hple:p<=4294967296:=by
  have:p*1<=p*q:=Int.mul_le_mul_of_nonneg_left om om
  omega
 have hdvd:p ∣ 4294967296:=⟨q,hs.symm⟩
 refine⟨by unfold rng;omega,kJ om om,λy=>∃i:Nat,y.1=i/\i<=a.length/\y.2.length=a.length+1/\Words y.2/\(∀k,i<k->y.2.getD k 0=0)/\y.2.getD i 0<p/\pv y.2 (i+1)=pv a i*p,λy=>a.length-y.1.toNat,
  ⟨0,rfl,by omega,by simp[ek],Words.rep _,λk hk=>?_,?_,?_⟩,?_⟩
 ·show(List.replicate (a.length+1) (0:Int)).getD k 0=0
  rw[List.getD_eq_getElem?_getD,List.getElem?_replicate];split<;>rfl
 ·show(List.replicate (a.length+1) (0:Int)).getD 0 0<p
  simp;omega
 ·show pv (List.replicate (a.length+1) (0:Int)) 1=_
  rw[j4];simp[pv]
 rintro⟨x,out⟩ ⟨i,hx,hi,hlen,hw,hz,hlow,hpv⟩
 simp only at hx hi hlen hw hz hlow hpv
 subst hx
 have hxi:=ha i
 have hoi:=hw i
 refine condT (λhlt=>⟨⟨by omega,hlt⟩,⟨by omega,by omega⟩,?_⟩) (λhge=>?_)
 ·rw[dV,Int.toNat_natCast,hp]
  have hy0:0<=a.getD i 0*p:=Int.mul_nonneg hxi.1 om
  have hy1:a.getD i 0*p<4294967296*p:=Int.mul_lt_mul_of_pos_right hxi.2 hpp
  have hy2:4294967296*p<=4294967296*4294967296:=Int.mul_le_mul_of_nonneg_left hple om
  rw[wrap_u64_id hxi.1 om,wrap_u64_id hy0 om]
  refine e8 ?_
  have hdy:p ∣ a.getD i 0*p:=⟨_,Int.mul_comm _ _⟩
  have hhi:a.getD i 0*p / 4294967296<p:=by
   rw[Int.ediv_lt_iff_lt_mul om]
   rw[Int.mul_comm p];exact hy1
  generalize hv:a.getD i 0*p=y at *
  refine⟨⟨by omega,by omega⟩,⟨by omega,by omega⟩,by unfold rng;omega,⟨by omega,by omega⟩,by unfold rng;omega,?_,by dsimp only;omega⟩
  have e1:(i:Int)+1=((i+1:Nat):Int):=om
  have e32:y / 2^Int.toNat 32=y / 4294967296:=rfl
  have hm:(y % 4294967296) % p=0:=by rw[Int.emod_emod_of_dvd _ hdvd];exact Int.emod_eq_zero_of_dvd hdy
  have hh0:0<=y / 4294967296:=om
  have hor:bits .or .u32 (out.getD i 0) (y % 4294967296)=y % 4294967296+out.getD i 0:=by
   refine uw n hoi.1 (by rw[hp];exact hlow) om (by rw[hp];exact hm) ?_
   obtain⟨z,hz'⟩:=Int.dvd_of_emod_eq_zero hm
   have:z<q:=by
    rcases Int.lt_or_le z q with h1 | h1
    ·exact h1
    ·have:p*q<=p*z:=Int.mul_le_mul_of_nonneg_left h1 om
     omega
   have:p*z<=p*(q-1):=Int.mul_le_mul_of_nonneg_left om om
   rw[Int.mul_sub,hs] at this
   omega
  rw[e1,dV,dk,dk,e32,wrap_u32,wrap_u32,hor]
  have hlo:y % 4294967296+out.getD i 0<4294967296:=by
   obtain⟨z,hz'⟩:=Int.dvd_of_emod_eq_zero hm
   have:z<q:=by
    rcases Int.lt_or_le z q with h1 | h1
    ·exact h1
    ·have:p*q<=p*z:=Int.mul_le_mul_of_nonneg_left h1 om
     omega
   have:p*z<=p*(q-1):=Int.mul_le_mul_of_nonneg_left om om
   rw[Int.mul_sub,hs] at this
   omega
  have hmod:y / 4294967296 % 4294967296=y / 4294967296:=om
  rw[hmod]
  refine⟨i+1,rfl,by omega,by simp[hlen],(hw.set _ om om).set _ hh0 om,λk hk=>?_,?_,?_⟩
  ·show((out.set i _).set (i+1) _).getD k 0=0
   rw[bx om,bx om]
   exact hz k om
  ·show((out.set i _).set (i+1) _).getD (i+1) 0<p
   rw[fy (by simp;omega)]
   exact hhi
  ·show pv ((out.set i _).set (i+1) _) (i+1+1)=_
   rw[nf (by simp;omega),nf om,pv,Int.pow_succ]
   rw[pv] at hpv
   have s4:=Int.add_mul (pv a i) (a.getD i 0*4294967296^i) p
   have s1:=iF y (4294967296^i)
   have s2:=Int.add_mul (y % 4294967296) (out.getD i 0) (4294967296^i)
   have s3:a.getD i 0*4294967296^i*p=y*4294967296^i:=by rw[<-hv,Int.mul_assoc,Int.mul_comm _ p,<-Int.mul_assoc]
   omega
 ·obtain rfl:i=a.length:=om
  refine h out hw hlen ?_
  have a1:=bs hw
  have a2:=bs ha
  rw[hlen,hpv,<-a2] at a1
  have:((val a*2^n:Nat):Int)=(val a:Int)*p:=by rw[<-hp];simp
  have:(val out:Int)=((val a*2^n:Nat):Int):=by rw[this];exact a1
  omega
theorem mo {a:List Int} {n:Nat} {Q:List Int->Prop} (ha:Words a) (la:SM a) (hn:n<=32) (h:∀out,Words out->out.length=a.length->val out=val a / 2^n->Q out):ez a (n:Int) Q:=by
 unfold SM at la
 unfold ez
 have hs:=jv hn
 have hpp:=da n
 have hqp:=da (32-n)
 generalize hp:(2:Int)^n=p at *
 generalize (2:Int)^(32-n)=q at *
 have hdvd:p ∣ 4294967296:=⟨q,hs.symm⟩
 refine⟨kJ om la,λy=>∃i:Nat,y.1=i/\i<=a.length/\y.2.length=a.length/\Words y.2/\pv y.2 i*p=pv a i-a.getD 0 0 % p+(a.getD i 0 % p)*4294967296^i,λy=>a.length-y.1.toNat,
  ⟨0,rfl,by omega,by simp[ek],Words.rep _,by simp[pv];omega⟩,?_⟩
 rintro⟨x,out⟩ ⟨i,hx,hi,hlen,hw,hpv⟩
 simp only at hx hi hlen hw hpv
 subst hx
 have h0:=ha i
 have h1:=ha (i+1)
 have e1:(i:Int)+1=((i+1:Nat):Int):=om
 refine condT (λhlt=>cq ha ⟨by unfold rng;omega,?_⟩) (λhge=>?_)
 ·rw[e1]
  refine cq ha ⟨⟨by omega,by omega⟩,⟨by omega,by omega⟩,by unfold rng;omega,?_,by dsimp only;omega⟩
  have e32:(2:Int)^Int.toNat 32=4294967296:=rfl
  rw[e32,Int.toNat_natCast,hp,wrap_u64_id om om,oV 32 h0.1 h0.2 om (by show _ % 4294967296=0;omega) om,dk,wrap_u32]
  generalize ha0:a.getD i 0=x0 at *
  generalize ha1:a.getD (i+1) 0=x1 at *
  have hx0:0<=x0 / p:=Int.ediv_nonneg h0.1 om
  have hx0':x0 / p<q:=by rw[Int.ediv_lt_iff_lt_mul hpp,Int.mul_comm,hs];exact h0.2
  have hm0:0<=x1 % p:=Int.emod_nonneg _ om
  have hm1:x1 % p<p:=Int.emod_lt_of_pos _ hpp
  have hdv:(x1*4294967296+x0) / p=x1*q+x0 / p:=by
   rw[<-hs,Int.mul_left_comm,Int.add_comm,Int.add_mul_ediv_left _ _ om,Int.add_comm]
  have hk:(x1*4294967296+x0) / p % 4294967296=(x1 % p)*q+x0 / p:=by
   have d1:x1=p*(x1 / p)+x1 % p:=(Int.mul_ediv_add_emod x1 p).symm
   have d2:x1*q+x0 / p=(x1 % p)*q+x0 / p+4294967296*(x1 / p):=by
    have:x1*q=(p*(x1 / p)+x1 % p)*q:=by rw[<-d1]
    rw[this,Int.add_mul,Int.mul_right_comm,hs];omega
   rw[hdv,d2,Int.add_mul_emod_self_left]
   refine Int.emod_eq_of_lt ?_ ?_
   ·have:=Int.mul_nonneg hm0 (Int.le_of_lt hqp);omega
   ·have:(x1 % p)*q<=(p-1)*q:=Int.mul_le_mul_of_nonneg_right om om
    rw[Int.sub_mul,hs] at this;omega
  rw[hk]
  have hq0:=Int.mul_nonneg hm0 (Int.le_of_lt hqp)
  have hq1:(x1 % p)*q<=(p-1)*q:=Int.mul_le_mul_of_nonneg_right om om
  rw[Int.sub_mul,hs] at hq1
  refine⟨i+1,rfl,by omega,by simp[hlen],hw.set _ om om,?_⟩
  show pv (out.set i (x1 % p*q+x0 / p)) (i+1)*p=pv a (i+1)-_+_
  rw[nf om,pv,Int.add_mul,hpv,ha0,ha1,Int.pow_succ]
  have d0:x0=p*(x0 / p)+x0 % p:=(Int.mul_ediv_add_emod x0 p).symm
  have s1:(x1 % p*q+x0 / p)*4294967296^i*p=x1 % p*(4294967296^i*4294967296)+(p*(x0 / p))*4294967296^i:=by
   rw[Int.add_mul,Int.add_mul]
   congr 1
   ·rw[<-hs,Int.mul_assoc,Int.mul_assoc,Int.mul_left_comm q,Int.mul_comm q p]
   ·rw[Int.mul_right_comm,Int.mul_comm (x0 / p)]
  have s2:x0*4294967296^i=(p*(x0 / p))*4294967296^i+x0 % p*4294967296^i:=by
   rw[<-Int.add_mul,<-d0]
  omega
 ·obtain rfl:i=a.length:=om
  refine h out hw hlen ?_
  have a1:=bs hw
  have a2:=bs ha
  rw[hlen] at a1
  rw[jC (Nat.le_refl a.length),Int.zero_emod,Int.zero_mul,<-a2,<-a1] at hpv
  have hr0:0<=a.getD 0 0 % p:=Int.emod_nonneg _ om
  have hr1:a.getD 0 0 % p<p:=Int.emod_lt_of_pos _ hpp
  have e:(val a:Int) / p=val out:=by
   have:(val a:Int)=p*val out+a.getD 0 0 % p:=by rw[Int.mul_comm];omega
   rw[this,Int.add_comm,Int.add_mul_ediv_left _ _ om,Int.ediv_eq_zero_of_lt hr0 hr1];omega
  have e2:((val a / 2^n:Nat):Int)=(val a:Int) / p:=by rw[<-hp];simp
  omega
theorem mn {a:List Int} {b:Int} {Q:List Int->Int->Prop} (ha:Words a) (la:SM a) (hb0:0<b) (hb1:b<4294967296) (h:Q (lim (val a / b.toNat)) ((val a % b.toNat:Nat):Int)):ey a b Q:=by
 unfold SM at la
 unfold ey
 rw[wrap_u64_id om om]
 refine⟨kJ om la,by unfold rng;omega,λy=>∃j:Nat,y.2.1=(j:Int)-1/\j<=a.length/\y.2.2.length=a.length/\Words y.2.2/\(∀k,k<j->y.2.2.getD k 0=0)/\0<=y.1/\y.1<b/\pv y.2.2 a.length*b+y.1*4294967296^j=pv a a.length-pv a j,
  λy=>(y.2.1+1).toNat,⟨a.length,rfl,by omega,by simp[ek],Words.rep _,λk hk=>?_,by omega,hb0,?_⟩,?_⟩
 ·show(List.replicate a.length (0:Int)).getD k 0=0
  rw[List.getD_eq_getElem?_getD,List.getElem?_replicate];split<;>rfl
 ·show pv (List.replicate a.length (0:Int)) a.length*b+0*_=_
  rw[j4];simp
 rintro⟨r,x,out⟩ ⟨j,hx,hj,hlen,hw,hz,hr0,hr1,hpv⟩
 simp only at hx hj hlen hw hz hr0 hr1 hpv
 subst hx
 have hj1:((j:Int)-1).toNat=j-1:=om
 refine condT (λhc=>⟨⟨by omega,by omega⟩,?_⟩) (λhc=>?_)
 ·obtain⟨i,rfl⟩:∃i,j=i+1:=⟨j-1,by omega⟩
  have ei:((i+1:Nat):Int)-1=(i:Int):=om
  have h0:=ha i
  have e32:(2:Int)^Int.toNat 32=4294967296:=rfl
  rw[ei,dV,e32,wrap_u64_id om om,wrap_u64_id om om,nj 32 h0.1 h0.2 om (by show _ % 4294967296=0;omega) om]
  refine e8 ⟨by omega,⟨by omega,by omega⟩,by omega,by unfold rng;omega,?_,by dsimp only;omega⟩
  generalize hv:r*4294967296+a.getD i 0=v
  have hv0:0<=v:=om
  rw[Int.tdiv_eq_ediv_of_nonneg hv0,Int.tmod_eq_emod_of_nonneg hv0,dk]
  have hq0:0<=v / b:=Int.ediv_nonneg hv0 om
  have hq1:v / b<4294967296:=by
   rw[Int.ediv_lt_iff_lt_mul hb0,<-hv]
   have:r*4294967296<=(b-1)*4294967296:=Int.mul_le_mul_of_nonneg_right om om
   omega
  rw[wrap_u64_id hq0 om,wrap_u32]
  have hqm:v / b % 4294967296=v / b:=om
  rw[hqm]
  refine⟨i,rfl,by omega,by simp[hlen],hw.set _ hq0 hq1,λk hk=>?_,Int.emod_nonneg _ om,Int.emod_lt_of_pos _ hb0,?_⟩
  ·show(out.set i _).getD k 0=0
   rw[bx om];exact hz k om
  ·show pv (out.set i (v / b)) a.length*b+v % b*_=_
   rw[dK om a.length om,hz i om,Int.sub_zero,Int.add_mul]
   rw[pv,Int.pow_succ] at hpv
   have d0:v=b*(v / b)+v % b:=(Int.mul_ediv_add_emod v b).symm
   have s1:v / b*4294967296^i*b+v % b*4294967296^i=v*4294967296^i:=by
    rw[Int.mul_right_comm,<-Int.add_mul,Int.mul_comm (v / b),<-d0]
   have s2:v*4294967296^i=r*(4294967296^i*4294967296)+a.getD i 0*4294967296^i:=by
    rw[<-hv,Int.add_mul,Int.mul_assoc,Int.mul_comm 4294967296]
   omega
 ·obtain rfl:j=0:=om
  refine bp hw (by unfold SM;omega) ?_
  have a1:=bs hw
  have a2:=bs ha
  rw[hlen] at a1
  simp only[pv,Int.pow_zero,Int.mul_one,Int.sub_zero] at hpv
  rw[<-a1,<-a2] at hpv
  obtain⟨c,rfl⟩:∃c:Nat,b=c:=⟨b.toNat,by omega⟩
  rw[Int.toNat_natCast] at h
  have hq:val a / c=val out:=by
   have:val a=c*val out+r.toNat:=by
    have:((val a:Nat):Int)=((c*val out+r.toNat:Nat):Int):=by
     rw[Int.natCast_add,Int.natCast_mul,Int.mul_comm];omega
    omega
   rw[this,Nat.add_comm,Nat.add_mul_div_left _ _ om,Nat.div_eq_of_lt om];omega
  have hm:val a % c=r.toNat:=by
   have:val a=c*val out+r.toNat:=by
    have:((val a:Nat):Int)=((c*val out+r.toNat:Nat):Int):=by
     rw[Int.natCast_add,Int.natCast_mul,Int.mul_comm];omega
    omega
   rw[this,Nat.add_comm,Nat.add_mul_mod_self_left,Nat.mod_eq_of_lt om]
  rw[hq,hm] at h
  rw[wrap_u32]
  have e:r % 4294967296=((r.toNat:Nat):Int):=om
  rw[e]
  exact h
end Go.Gg
namespace Go.Gg
theorem kI {n:Int} {Q:List Int->Prop} (h1:n<=9223372036854775807) (h:Q (lim n.toNat)):gd n Q:=by
 refine condT (λhc=>?_) (λhc=>?_)
 ·have:n.toNat=0:=om
  rw[this,ce] at h;exact h
 ·have e32:(2:Int)^Int.toNat 32=4294967296:=rfl
  rw[e32,wrap_u32,wrap_u32]
  have hw:Words [n % 4294967296,n / 4294967296 % 4294967296]:=(Words.nil.cons om om).cons om om
  refine bp hw (by simp[SM]) ?_
  have hv:val [n % 4294967296,n / 4294967296 % 4294967296]=n.toNat:=by
   rw[fA hw,fA hw.tail,iC];omega
  rw[hv];exact h
theorem ss {a:List Int} (ha:Words a) {i:Nat} (hz:∀k,i<k->k<a.length->a.getD k 0=0) (hi:i<a.length) (hn:a.getD i 0≠0):(bn (val a):Int)=32*i+bn (a.getD i 0).toNat:=by
 have h0:=ha i
 have a1:=bs ha
 rw[iJ (j:=i+1) a.length hi (λk h1 h2=>hz k om h2),pv] at a1
 obtain⟨b1,b2⟩:=aV ha i
 obtain⟨x,hx⟩:∃x:Nat,a.getD i 0=x:=⟨(a.getD i 0).toNat,by omega⟩
 rw[hx] at a1 hn h0 ⊢
 rw[Int.toNat_natCast]
 have hx0:x≠0:=om
 have c1:=kR (n:=x)
 have c2:=iS hx0
 have hb:bn x≠0:=by unfold bn;rw[if_neg hx0];omega
 have ew:((4294967296^i:Nat):Int)=(4294967296:Int)^i:=by simp
 have e1:val a=(pv a i).toNat+x*4294967296^i:=by
  have:(val a:Int)=(((pv a i).toNat+x*4294967296^i:Nat):Int):=by
   rw[a1,Int.natCast_add,Int.natCast_mul,ew];omega
  omega
 have hlt:(pv a i).toNat<4294967296^i:=om
 have hpw:(4294967296:Nat)^i=2^(32*i):=by rw[Nat.pow_mul]
 have:bn (val a)=32*i+bn x:=by
  refine lI ?_ (λ_=>?_)
  ·rw[e1,Nat.pow_add,<-hpw]
   have:(x+1)*4294967296^i<=2^bn x*4294967296^i:=Nat.mul_le_mul_right _ c1
   rw[Nat.add_mul,Nat.mul_comm (2^bn x)] at this
   omega
  ·have e:32*i+bn x-1=32*i+(bn x-1):=om
   rw[e1,e,Nat.pow_add,<-hpw]
   have:2^(bn x-1)*4294967296^i<=x*4294967296^i:=Nat.mul_le_mul_right _ c2
   rw[Nat.mul_comm (2^(bn x-1))] at this
   omega
 omega
theorem nq {a:List Int} {Q:Int->Prop} (ha:Words a) (la:SM a) (h:Q (bn (val a))):gB a Q:=by
 unfold SM at la
 refine⟨by unfold rng;omega,λx=>∃j:Nat,x=(j:Int)-1/\j<=a.length/\∀k,j<=k->k<a.length->a.getD k 0=0,λx=>(x+1).toNat,⟨a.length,rfl,by omega,λk h1 h2=>om⟩,?_⟩
 rintro _ ⟨j,rfl,hj,hz⟩
 refine condT (λhc=>⟨⟨by omega,by omega⟩,?_⟩) (λhc=>?_)
 ·obtain⟨i,rfl⟩:∃i,j=i+1:=⟨j-1,by omega⟩
  have ei:((i+1:Nat):Int)-1=(i:Int):=om
  rw[ei,dV]
  have h0:=ha i
  refine fI (λhn=>⟨by unfold rng;omega,⟨by omega,by omega⟩,?_⟩) (λhe=>⟨by unfold rng;omega,⟨i,rfl,by omega,λk h1 h2=>?_⟩,by dsimp only;omega⟩)
  ·have hb:=ss ha (λk h1 h2=>hz k om h2) om hn
   obtain⟨x,hx⟩:∃x:Nat,a.getD i 0=x:=⟨(a.getD i 0).toNat,by omega⟩
   rw[hx] at hb ⊢
   rw[Int.toNat_natCast] at hb
   have h32:=jE (x:=x) om
   refine rp om ⟨by unfold rng;omega,?_⟩
   rw[<-hb];exact h
  ·by_cases hk:k=i
   ·subst hk;exact he
   ·exact hz k om h2
 ·obtain rfl:j=0:=om
  have:val a=0:=by
   have a1:=bs ha
   rw[iJ (j:=0) a.length om (λk h1 h2=>hz k h1 h2)] at a1
   simp only[pv] at a1;omega
  rw[this,sr] at h
  exact h
theorem dz {l:List Int} {j i:Nat}:(l.drop j).getD i 0=l.getD (j+i) 0:=by
 rw[List.getD_eq_getElem?_getD,List.getD_eq_getElem?_getD,List.getElem?_drop]
theorem l7 {l:List Int} {o i:Nat} {x:Int} (h:o+i<l.length):pv ((l.set (o+i) x).drop o) (i+1)=pv (l.drop o) i+x*4294967296^i:=by
 rw[pv,dz,fy h]
 congr 1
 exact fG i (λk hk=>by rw[dz,dz,bx om])
theorem no {u v:List Int} {o n:Nat} {g:Int} {Q:List Int->Bool->Prop} (hu:Words u) (hv:Words v) (lu:SM u) (ho:o+n<=u.length) (hn:v.length<n) (hg0:0<=g) (hg1:g<4294967296)
  (h:∀(w:List Int) (b:Int),Words w->w.length=u.length->(∀k,k<o\/o+n<=k->w.getD k 0=u.getD k 0)->(b=0\/b=1)->pv (w.drop o) n=pv (u.drop o) n-g*val v+b*4294967296^n->Q w (b == 1)) :
  gz u o n v g Q:=by
 unfold SM at lu
 refine⟨λy=>∃i:Nat,y.2.2.1=i/\i<=n/\y.2.2.2.length=u.length/\Words y.2.2.2/\(∀k,k<o\/o+i<=k->y.2.2.2.getD k 0=u.getD k 0)/\0<=y.1/\y.1<4294967296/\0<=y.2.1/\y.2.1<=1/\0<=g*pv v i-y.1*4294967296^i/\g*pv v i-y.1*4294967296^i<4294967296^i/\
   pv (y.2.2.2.drop o) i=pv (u.drop o) i-(g*pv v i-y.1*4294967296^i)+y.2.1*4294967296^i,λy=>n-y.2.2.1.toNat,
  ⟨0,rfl,by omega,rfl,hu,λ_ _=>rfl,Int.le_refl 0,by show(0:Int)<4294967296;omega,Int.le_refl 0,by show(0:Int)<=1;omega,by simp[pv],by simp[pv],by simp[pv]⟩,?_⟩
 rintro⟨c,b,x,w⟩ ⟨i,hx,hi,hlen,hw,hz,hc0,hc1,hb0,hb1,hl0,hl1,hpv⟩
 simp only at hx hi hlen hw hz hc0 hc1 hb0 hb1 hl0 hl1 hpv
 subst hx
 have hvi:=hv i
 have hwi:=hw (o+i)
 have eoi:(o:Int)+(i:Int)=((o+i:Nat):Int):=om
 refine condT (λhlt=>cq hv ?_) (λhge=>?_)
 ·have hm0:0<=g*v.getD i 0:=Int.mul_nonneg hg0 hvi.1
  have hm1:g*v.getD i 0<=4294967295*4294967295:=Int.mul_le_mul om om hvi.1 om
  rw[wrap_u64_id hm0 om,wrap_u64_id om om]
  refine e8 ⟨⟨by omega,hlt⟩,by omega,?_⟩
  rw[eoi,dV]
  generalize hc':c+g*v.getD i 0=d at *
  rw[wrap_u64_id hwi.1 om,wrap_u32,wrap_u64_id (m:=d % 4294967296) om om]
  obtain⟨q1,q2,q3⟩:=mR (w.getD (o+i) 0) (d % 4294967296) b hwi om ⟨hb0,hb1⟩
  refine e8 ⟨⟨by omega,hlt⟩,by omega,by unfold rng;omega,?_,by dsimp only;omega⟩
  generalize IntKind.u64.wrap (IntKind.u64.wrap (w.getD (o+i) 0-d % 4294967296)-b)=e at *
  have e63:e / 2^Int.toNat 63=e / 9223372036854775808:=rfl
  have e32:d / 2^Int.toNat 32=d / 4294967296:=rfl
  rw[e63,e32,dk,wrap_u32]
  have hP:=c_ i
  have p1:pv (u.drop o) (i+1)=pv (u.drop o) i+w.getD (o+i) 0*4294967296^i:=by rw[pv,dz,hz (o+i) om]
  have p2:g*pv v (i+1)=g*pv v i+g*v.getD i 0*4294967296^i:=by rw[pv,Int.mul_add,Int.mul_assoc]
  have p3:=Int.pow_succ (4294967296:Int) i
  have p0:=l7 (l:=w) (o:=o) (i:=i) (x:=e % 4294967296) om
  generalize (4294967296:Int)^i=P at *
  have s1:=iF d P
  have s3:d*P=c*P+g*v.getD i 0*P:=by rw[<-hc',Int.add_mul]
  have s5:d % 4294967296*P<=4294967295*P:=Int.mul_le_mul_of_nonneg_right om om
  have s6:0<=d % 4294967296*P:=Int.mul_nonneg om om
  refine⟨i+1,rfl,by omega,by simp[hlen],hw.set _ om om,λk hk=>?_,by show 0<=d / 4294967296;omega,by show d / 4294967296<4294967296;omega,q2,q3,?_,?_,?_⟩
  ·show(w.set (o+i) _).getD k 0=_
   rw[bx om];exact hz k om
  ·show 0<=g*pv v (i+1)-d / 4294967296*4294967296^(i+1)
   rw[p2,p3];omega
  ·show g*pv v (i+1)-d / 4294967296*4294967296^(i+1)<4294967296^(i+1)
   rw[p2,p3];omega
  ·show pv ((w.set (o+i) (e % 4294967296)).drop o) (i+1)=pv (u.drop o) (i+1)-(g*pv v (i+1)-d / 4294967296*4294967296^(i+1))+e / 9223372036854775808*4294967296^(i+1)
   rw[p0,hpv,p1,p2,p3]
   have s0:e % 4294967296=w.getD (o+i) 0-d % 4294967296-b+4294967296*(e / 9223372036854775808):=om
   rw[s0]
   generalize e / 9223372036854775808=b' at *
   have s4:(w.getD (o+i) 0-d % 4294967296-b+4294967296*b')*P=w.getD (o+i) 0*P-d % 4294967296*P-b*P+b'*(P*4294967296):=by
    rw[Int.add_mul,Int.sub_mul,Int.sub_mul,Int.mul_comm 4294967296 b',Int.mul_assoc b',Int.mul_comm 4294967296 P]
   rw[s4]
   generalize d / 4294967296=d' at *
   generalize d % 4294967296=d'' at *
   clear q1 q2 q3 s0 s4 s5 s6 hpv
   omega
 ·obtain rfl:i=n:=om
  refine h w b hw hlen hz om ?_
  have a1:=c8 hv (i:=i) om
  have hc:c=0:=by
   have hv1:=c8 hv (i:=i-1) om
   have hb':=(aV hv (i-1)).2
   have hw0:=aV hw 0
   obtain⟨m,rfl⟩:∃m,i=m+1:=⟨i-1,by omega⟩
   rw[Nat.add_sub_cancel] at hv1 hb'
   have hP:=c_ m
   rw[Int.pow_succ] at hpv
   have hgv:g*pv v (m+1)<=4294967295*(4294967296^m-1):=by
    rw[<-a1,hv1]
    exact Int.mul_le_mul om om (aV hv m).1 om
   rw[Int.pow_succ] at hl0
   generalize (4294967296:Int)^m=P at *
   rcases Int.lt_or_le 0 c with hc | hc
   ·have:1*(P*4294967296)<=c*(P*4294967296):=Int.mul_le_mul_of_nonneg_right om om
    omega
   ·omega
  subst hc
  rw[a1]
  rw[hpv];omega
theorem np {u v:List Int} {o n:Nat} {Q:List Int->Prop} (hu:Words u) (hv:Words v) (lu:SM u) (ho:o+n<=u.length) (hn:v.length<=n)
  (h:∀(w:List Int) (c:Int),Words w->w.length=u.length->(∀k,k<o\/o+n<=k->w.getD k 0=u.getD k 0)->(c=0\/c=1)->pv (w.drop o) n+c*4294967296^n=pv (u.drop o) n+val v->Q w) :
  gA u o n v Q:=by
 unfold SM at lu
 refine⟨λy=>∃i:Nat,y.2.1=i/\i<=n/\y.2.2.length=u.length/\Words y.2.2/\(∀k,k<o\/o+i<=k->y.2.2.getD k 0=u.getD k 0)/\0<=y.1/\y.1<=1/\
   pv (y.2.2.drop o) i+y.1*4294967296^i=pv (u.drop o) i+pv v i,λy=>n-y.2.1.toNat,
  ⟨0,rfl,by omega,rfl,hu,λ_ _=>rfl,Int.le_refl 0,by show(0:Int)<=1;omega,by simp[pv]⟩,?_⟩
 rintro⟨c,x,w⟩ ⟨i,hx,hi,hlen,hw,hz,hc0,hc1,hpv⟩
 simp only at hx hi hlen hw hz hc0 hc1 hpv
 subst hx
 have hvi:=hv i
 have hwi:=hw (o+i)
 have eoi:(o:Int)+(i:Int)=((o+i:Nat):Int):=om
 refine condT (λhlt=>⟨⟨by omega,hlt⟩,by omega,v.getD i 0,cq hv rfl,⟨by omega,hlt⟩,by omega,?_⟩) (λhge=>?_)
 ·rw[eoi,dV,wrap_u64_id hwi.1 om,wrap_u64_id (m:=w.getD (o+i) 0+v.getD i 0) om om,wrap_u64_id om om]
  refine e8 ⟨by unfold rng;omega,?_,by dsimp only;omega⟩
  have e32:∀d:Int,d / 2^Int.toNat 32=d / 4294967296:=λ_=>rfl
  rw[e32,dk,wrap_u32]
  generalize hd:c+(w.getD (o+i) 0+v.getD i 0)=d
  refine⟨i+1,rfl,by omega,by simp[hlen],hw.set _ om om,λk hk=>?_,by show 0<=d / 4294967296;omega,by show d / 4294967296<=1;omega,?_⟩
  ·show(w.set (o+i) _).getD k 0=_
   rw[bx om];exact hz k om
  ·show pv ((w.set (o+i) (d % 4294967296)).drop o) (i+1)+d / 4294967296*4294967296^(i+1)=pv (u.drop o) (i+1)+pv v (i+1)
   have p0:=l7 (l:=w) (o:=o) (i:=i) (x:=d % 4294967296) om
   have p1:pv (u.drop o) (i+1)=pv (u.drop o) i+w.getD (o+i) 0*4294967296^i:=by rw[pv,dz,hz (o+i) om]
   have p2:pv v (i+1)=pv v i+v.getD i 0*4294967296^i:=by rw[pv]
   rw[p0,p1,p2,Int.pow_succ]
   have s1:=iF d (4294967296^i)
   have s3:d*4294967296^i=c*4294967296^i+(w.getD (o+i) 0*4294967296^i+v.getD i 0*4294967296^i):=by rw[<-hd,Int.add_mul,Int.add_mul]
   omega
 ·obtain rfl:i=n:=om
  have a1:=c8 hv (i:=i) om
  exact h w c hw hlen hz om (by rw[a1];exact hpv)
end Go.Gg
namespace Go.Gg
theorem fi {a b c:Nat} (h:a+b=c):(2:Int)^a*2^b=2^c:=by rw[<-Int.pow_add,h]
theorem pV {V P B top nx vl head th pl g:Int} (hV:V=(top*4294967296+nx)*B+vl) (hvl:0<=vl) (hP:P=(head*4294967296+th)*B+pl) (hpl:pl<B) (hB:0<B) (hg:0<=g)
  (h:head*4294967296+th<g*(top*4294967296+nx)):P<g*V:=by
 have h1:(head*4294967296+th+1)*B<=g*(top*4294967296+nx)*B:=Int.mul_le_mul_of_nonneg_right om om
 have h2:0<=g*vl:=Int.mul_nonneg hg hvl
 rw[hV,Int.mul_add,<-Int.mul_assoc]
 rw[Int.add_mul] at h1
 omega
theorem pW {V P B top nx vl head th pl g:Int} (hV:V=(top*4294967296+nx)*B+vl) (hvl0:0<=vl) (hvl:vl<B) (hP:P=(head*4294967296+th)*B+pl) (hpl:0<=pl) (hg0:0<=g) (hg:g<4294967296) (hVB:4294967296*B<=V)
  (h:g*(top*4294967296+nx)<=head*4294967296+th):(g-1)*V<=P:=by
 have h1:g*(top*4294967296+nx)*B<=(head*4294967296+th)*B:=Int.mul_le_mul_of_nonneg_right h om
 have h2:g*vl<=4294967296*B:=Int.mul_le_mul om om hvl0 om
 rw[Int.sub_mul,hV,Int.mul_add,<-Int.mul_assoc]
 rw[<-hV]
 omega
theorem io {l:List Int} {i:Nat}:∀n,pv l (i+n)=pv l i+pv (l.drop i) n*4294967296^i
 | 0=>by simp[pv]
 | n+1=>by
  rw[<-Nat.add_assoc,pv,io n,pv,dz,Int.add_mul,Int.pow_add,Int.mul_assoc (l.getD (i+n) 0),Int.mul_comm (4294967296^n)]
  omega
theorem oU {l m:List Int} {i n:Nat} (h:∀k,k<i\/i+n<=k->l.getD k 0=m.getD k 0):∀M,i+n<=M->pv l M-pv m M=(pv (l.drop i) n-pv (m.drop i) n)*4294967296^i
 | 0,hM=>by
  have h1:i=0:=om
  have h2:n=0:=om
  subst h1 h2
  simp[pv]
 | M+1,hM=>by
  by_cases he:i+n=M+1
  ·rw[<-he,io,io,fG i (λk hk=>h k (.inl hk)),Int.sub_mul];omega
  ·rw[pv,pv,h M (.inr om)]
   have:=oU h M om
   omega
theorem oY {n:Nat} (h:n≠0):(lim n).getD ((lim n).length-1) 0≠0:=by
 induction n using Nat.strongRecOn with
 | _ n ih=>
  rw[dm om]
  simp only[List.length_cons,Nat.add_sub_cancel]
  by_cases h0:n / 4294967296=0
  ·rw[h0,ce];simp;omega
  ·have h1:=ih _ (Nat.div_lt_self om om) h0
   have h2:(lim (n / 4294967296)).length≠0:=by rw[dm om];simp
   obtain⟨k,hk⟩:∃k,(lim (n / 4294967296)).length=k+1:=⟨_,(Nat.succ_pred_eq_of_ne_zero h2).symm⟩
   rw[hk] at h1 ⊢
   simpa using h1
theorem qE {top nx hd1 hd2 th V P B vl pl:Int} {next3:Int->Prop} {G1 G2 G3:Prop} (hG1:G1) (hG2:G2) (hG3:G3) (htop0:2147483648<=top) (htop:top<4294967296) (hnx:0<=nx/\nx<4294967296) (h1:0<=hd1/\hd1<=top) (h2:0<=hd2/\hd2<4294967296) (h3:0<=th/\th<4294967296)
  (hV:V=(top*4294967296+nx)*B+vl) (hvl:0<=vl/\vl<B) (hP:P=((hd1*4294967296+hd2)*4294967296+th)*B+pl) (hpl:0<=pl/\pl<B) (hB:0<B) (hPV:P<V*4294967296)
  (hn:∀g,0<=g->g<4294967296->P<(g+1)*V->(g-1)*V<=P->next3 g) :
  bk (σ:=Int×Int) (IntKind.u64.wrap (Int.tdiv (hd1*4294967296+hd2) top),Int.tmod (hd1*4294967296+hd2) top) λ⟨guess2,rest⟩ next4=>
   c6 (α:=Unit) (λnext5=>ah (decide (4294967296<=guess2)) (next5 ()) (G1/\G2/\G3/\ah (decide (bits .or .u64 (IntKind.u64.wrap (rest*4294967296)) th<IntKind.u64.wrap (guess2*nx))) (next5 ()) (next3 guess2)))
    λ_=>gX (IntKind.u64.wrap (rest+top)) λrest1=>ah (decide (4294967296<=rest1)) (next3 (IntKind.u64.wrap (guess2-1))) (next4 (IntKind.u64.wrap (guess2-1),rest1)):=by
 have hhd0:0<=hd1*4294967296+hd2:=om
 have hVB:4294967296*B<=V:=by
  have:4294967296*B<=(top*4294967296+nx)*B:=Int.mul_le_mul_of_nonneg_right om om
  omega
 generalize hhd:hd1*4294967296+hd2=head at *
 have hhead:head<=top*4294967296+4294967295:=om
 have hq0:0<=head / top:=Int.ediv_nonneg hhd0 om
 have hr0:0<=head % top:=Int.emod_nonneg _ om
 have hr1:head % top<top:=Int.emod_lt_of_pos _ om
 have hde:head=top*(head / top)+head % top:=(Int.mul_ediv_add_emod head top).symm
 have hqu:head / top<4294967298:=by
  rw[Int.ediv_lt_iff_lt_mul om];omega
 rw[Int.tdiv_eq_ediv_of_nonneg hhd0,Int.tmod_eq_emod_of_nonneg hhd0,wrap_u64_id hq0 om]
 refine⟨λy=>0<=y.1/\y.1<4294967298/\0<=y.2/\y.2<4294967296/\head=y.1*top+y.2/\P<(y.1+1)*V,λy=>y.1.toNat,⟨hq0,hqu,hr0,by show head % top<_;omega,by show head=head / top*top+head % top;rw[Int.mul_comm];exact hde,?_⟩,?_⟩
 ·show P<(head / top+1)*V
  refine pV hV hvl.1 hP hpl.2 hB om ?_
  have a1:(head / top+1)*top=top*(head / top)+top:=by rw[Int.add_mul,Int.mul_comm];omega
  have a2:(head / top+1)*(top*4294967296+nx)=(head / top+1)*top*4294967296+(head / top+1)*nx:=by rw[Int.mul_add,Int.mul_assoc]
  have a3:0<=(head / top+1)*nx:=Int.mul_nonneg om hnx.1
  omega
 rintro⟨g,r⟩ ⟨hg0,hg1,hr0,hr1,hh,hU⟩
 simp only at hg0 hg1 hr0 hr1 hh hU
 have hexp:g*(top*4294967296+nx)=(g*top)*4294967296+g*nx:=by rw[Int.mul_add,Int.mul_assoc]
 refine⟨λ_=>P<g*V,condT (λhc=>?_) (λhc=>⟨hG1,hG2,hG3,?_⟩),λ_ hlt=>?_⟩
 ·have:V*4294967296<=g*V:=by rw[Int.mul_comm V];exact Int.mul_le_mul_of_nonneg_right hc om
  omega
 ·have hgn0:0<=g*nx:=Int.mul_nonneg hg0 hnx.1
  have hgn1:g*nx<=4294967295*4294967295:=Int.mul_le_mul om om hnx.1 om
  rw[wrap_u64_id (m:=r*4294967296) om om,wrap_u64_id hgn0 om,nj 32 h3.1 h3.2 om (by show _ % 4294967296=0;omega) om]
  refine condT (λhgt=>?_) (λhle=>?_)
  ·exact pV hV hvl.1 hP hpl.2 hB hg0 om
  ·exact hn g hg0 om hU (pW hV hvl.1 hvl.2 hP hpl.1 hg0 om hVB om)
 ·have hg1':1<=g:=by
   rcases Int.lt_or_le g 1 with h | h
   ·have:g=0:=om
    subst this
    have hP0:0<=P:=by
     rw[hP]
     have:0<=(head*4294967296+th)*B:=Int.mul_nonneg om om
     omega
    simp at hlt;omega
   ·exact h
  rw[wrap_u64_id (m:=r+top) om om,wrap_u64_id (m:=g-1) om om]
  have hsub:(g-1)*top=g*top-top:=by rw[Int.sub_mul];omega
  have hexp2:(g-1)*(top*4294967296+nx)=((g-1)*top)*4294967296+(g-1)*nx:=by rw[Int.mul_add,Int.mul_assoc]
  refine e8 (condT (λhc=>?_) (λhc=>⟨⟨by show 0<=g-1;omega,by show g-1<_;omega,by show 0<=r+top;omega,by show r+top<_;omega,by show head=(g-1)*top+(r+top);omega,by show P<(g-1+1)*V;rw[Int.sub_add_cancel];exact hlt⟩,by show(g-1).toNat<g.toNat;omega⟩))
  have hgW:g-1<4294967296:=by
   rcases Int.lt_or_le (g-1) 4294967296 with h | h
   ·exact h
   ·have:4294967296*top<=(g-1)*top:=Int.mul_le_mul_of_nonneg_right h om
    omega
  have hgn1:(g-1)*nx<=4294967295*4294967295:=Int.mul_le_mul om om hnx.1 om
  refine hn (g-1) om hgW (by rw[Int.sub_add_cancel];exact hlt) (pW hV hvl.1 hvl.2 hP hpl.1 om hgW hVB om)
set_option maxHeartbeats 2000000 in
theorem hO {a b:List Int} {Q:List Int->List Int->Option Int->Prop} (ha:Words a) (hb:Words b) (la:a.length<=1099511627774) (lb:b.length<=1099511627774)
  (h0:val b=0->Q [] [] (some 8)) (h:val b≠0->Q (lim (val a / val b)) (lim (val a % val b)) none):ep a b Q:=by
 refine bp ha (by unfold SM;omega) (bp hb (by unfold SM;omega) ?_)
 have b1:=cB ha
 have b2:=cB hb
 have w1:=ap (val a)
 have w2:=ap (val b)
 have v1:=aK (val a)
 have v2:=aK (val b)
 refine c7 (λhc=>?_) (λhc=>?_)
 ·have:(lim (val b)).length=0:=om
  have:lim (val b)=[]:=List.eq_nil_of_length_eq_zero this
  rw[this,iC] at v2
  exact h0 v2.symm
 have hB:val b≠0:=by intro hh;rw[hh,ce] at hc;exact hc rfl
 replace h:=h hB
 clear h0
 refine dx w1 w2 (by unfold SM;omega) (by unfold SM;omega) ?_
 rw[v1,v2]
 refine condT (λhlt=>?_) (λhge=>c7 (λh1=>?_) (λh1=>?_))
 ·have:=iQ.1 hlt
  rw[Nat.div_eq_of_lt this,Nat.mod_eq_of_lt this,ce] at h
  exact h
 ·
  have hl1:(lim (val b)).length=1:=om
  have hw0:=w2 0
  have hbv:(val b:Int)=(lim (val b)).getD 0 0:=by
   have:=bs w2
   rw[v2,hl1] at this
   simpa[pv] using this
  refine⟨⟨by omega,by omega⟩,?_⟩
  have e0:at' (lim (val b)) 0=(val b:Int):=by rw[hbv];rfl
  rw[e0]
  have hm:val a % val b<val b:=Nat.mod_lt _ om
  refine mn w1 (by unfold SM;omega) om om ?_
  rw[v1,Int.toNat_natCast,fD (by unfold rng;omega)]
  refine kI om ?_
  rw[Int.toNat_natCast]
  exact h
 obtain⟨m,hm⟩:∃m,(lim (val b)).length=m+2:=⟨(lim (val b)).length-2,by omega⟩
 have hge':val b<=val a:=by
  rcases Nat.lt_or_ge (val a) (val b) with hh | hh
  ·exact absurd (iQ.2 hh) hge
  ·exact hh
 have hlen:m+2<=(lim (val a)).length:=by rw[<-hm];exact cn hge'
 generalize hA:val a=A at *
 generalize hBv:val b=B at *
 have htop:=oY hB
 have hbd:(val (lim B):Int)=_:=bs w2
 rw[v2] at hbd
 have hAp:(A:Int)<4294967296^(lim A).length:=by
  have:=(aV w1 (lim A).length).2
  have e:=bs w1
  rw[v1] at e;omega
 generalize hla:lim A=al at *
 generalize hlb:lim B=bl at *
 rw[hm] at htop hbd
 have e21:m+2-1=m+1:=om
 rw[e21] at htop
 have hwt:=w2 (m+1)
 have hml:(bl.length:Int)-1=((m+1:Nat):Int):=om
 rw[hml]
 obtain⟨tp,htp⟩:∃x:Nat,bl.getD (m+1) 0=x:=⟨(bl.getD (m+1) 0).toNat,by omega⟩
 refine⟨by unfold rng;omega,⟨by omega,by omega⟩,?_⟩
 rw[dV,htp]
 rw[htp] at htop hwt
 have htp0:tp≠0:=om
 have c1:=kR (n:=tp)
 have c2:=iS htp0
 have c3:=jE (x:=tp) om
 have c4:bn tp≠0:=by unfold bn;rw[if_neg htp0];omega
 refine v8 om ?_
 obtain⟨s,hs⟩:∃s,32-bn tp=s:=⟨_,rfl⟩
 rw[hs]
 have hs31:s<=31:=om
 refine jk w2 om om (λr4 hr4 hr4l hr4v=>?_)
 rw[hm] at hr4l
 rw[v2] at hr4v
 refine⟨⟨by omega,by omega,by omega⟩,e8 ?_⟩
 have hvl:(eh r4 0 (bl.length:Int))=r4.take (m+2):=by
  show(r4.drop 0).take (((bl.length:Nat):Int).toNat-0)=_
  rw[Int.toNat_natCast,hm];rfl
 rw[hvl]
 have hvlen:(r4.take (m+2)).length=m+2:=by rw[List.length_take,hr4l];omega
 have hPm:=c_ m
 have ew:(4294967296:Int)^(m+2)=4294967296^m*4294967296*4294967296:=by rw[Int.pow_succ,Int.pow_succ]
 have ew1:(4294967296:Int)^(m+1)=4294967296^m*4294967296:=Int.pow_succ ..
 have hbd2:(B:Int)=pv bl m+bl.getD m 0*4294967296^m+tp*(4294967296^m*4294967296):=by rw[hbd,pv,pv,htp,ew1]
 have hbm:=aV w2 m
 have hbm1:=w2 m
 have hlow:bl.getD m 0*4294967296^m<=4294967295*4294967296^m:=Int.mul_le_mul_of_nonneg_right om om
 have hlow0:0<=bl.getD m 0*4294967296^m:=Int.mul_nonneg hbm1.1 om
 have hps:=da s
 have hts:(tp:Int)*2^s<4294967296/\2147483648<=(tp:Int)*2^s:=by
  have e1:(2:Int)^(bn tp)*2^s=4294967296:=fi (c:=32) om
  have e2:(2:Int)^(bn tp-1)*2^s=2147483648:=fi (c:=31) om
  have f1:(tp:Int)+1<=2^(bn tp):=by exact_mod_cast c1
  have f2:(2:Int)^(bn tp-1)<=tp:=by exact_mod_cast c2
  have g1:((tp:Int)+1)*2^s<=2^(bn tp)*2^s:=Int.mul_le_mul_of_nonneg_right f1 om
  have g2:(2:Int)^(bn tp-1)*2^s<=tp*2^s:=Int.mul_le_mul_of_nonneg_right f2 om
  rw[Int.add_mul] at g1
  omega
 have hVval:((val r4:Nat):Int)=(B:Int)*2^s:=by rw[hr4v];simp
 have hr4p:=bs hr4
 rw[hr4l] at hr4p
 have hVlt:(val r4:Int)<4294967296^(m+2):=by
  have k1:(B:Int)+1<=(tp+1)*(4294967296^m*4294967296):=by rw[Int.add_mul];omega
  have k2:((B:Int)+1)*2^s<=((tp+1)*(4294967296^m*4294967296))*2^s:=Int.mul_le_mul_of_nonneg_right k1 om
  have k3:(((tp:Int)+1)*2^s)<=4294967296:=by
   have f1:(tp:Int)+1<=2^(bn tp):=by exact_mod_cast c1
   have e1:(2:Int)^(bn tp)*2^s=4294967296:=fi (c:=32) om
   have g1:((tp:Int)+1)*2^s<=2^(bn tp)*2^s:=Int.mul_le_mul_of_nonneg_right f1 om
   omega
  have k4:(((tp:Int)+1)*2^s)*(4294967296^m*4294967296)<=4294967296*(4294967296^m*4294967296):=Int.mul_le_mul_of_nonneg_right k3 om
  rw[Int.mul_right_comm] at k2
  rw[Int.add_mul] at k2
  rw[hVval,ew]
  omega
 have hVge:2147483648*(4294967296^m*4294967296)<=(val r4:Int):=by
  have k1:(tp:Int)*(4294967296^m*4294967296)<=B:=om
  have k2:(tp:Int)*(4294967296^m*4294967296)*2^s<=B*2^s:=Int.mul_le_mul_of_nonneg_right k1 om
  have k3:2147483648*(4294967296^m*4294967296)<=(tp:Int)*2^s*(4294967296^m*4294967296):=Int.mul_le_mul_of_nonneg_right hts.2 om
  rw[Int.mul_right_comm] at k2
  omega
 have hVp:(val r4:Int)=pv (r4.take (m+2)) (m+2):=by
  rw[hr4p] at hVlt ⊢
  rw[q_ (Nat.le_refl _)]
  exact kC hr4 om hVlt
 have hwv:Words (r4.take (m+2)):=hr4.take _
 have hvv:val (r4.take (m+2))=val r4:=by
  have:=bs hwv
  rw[hvlen,<-hVp] at this;omega
 generalize hv:r4.take (m+2)=v at *
 generalize hVV:val r4=V at *
 clear hr4 hr4l hr4p hvl
 refine jk w1 om om (λu hu hul huv=>?_)
 rw[v1] at huv
 have hvl1:(v.length:Int)-1=((m+1:Nat):Int):=om
 have hvl2:(v.length:Int)-2=(m:Int):=om
 obtain⟨K,hK⟩:∃K,al.length=K+(m+2):=⟨al.length-(m+2),by omega⟩
 have hkl:(u.length:Int)-(v.length:Int)=((K+1:Nat):Int):=om
 rw[hvl1,hvl2,hkl]
 refine⟨by unfold rng;omega,⟨by omega,by omega⟩,by unfold rng;omega,⟨by omega,by omega⟩,by unfold rng;omega,kJ om om,by unfold rng;omega,e8 ?_⟩
 rw[Int.toNat_natCast]
 have hU:(val u:Int)<V*4294967296^(K+1):=by
  have k0:((val u:Nat):Int)=(A:Int)*2^s:=by rw[huv];simp
  have k1:(2:Int)^s<=2147483648:=by
   have:(2:Int)^s*2^(31-s)=2147483648:=fi (c:=31) om
   have h2:=da (31-s)
   have:(2:Int)^s*1<=2^s*2^(31-s):=Int.mul_le_mul_of_nonneg_left om om
   omega
  have k2:(A:Int)*2^s<4294967296^al.length*2^s:=Int.mul_lt_mul_of_pos_right hAp hps
  have k3:(4294967296:Int)^al.length*2^s<=4294967296^al.length*2147483648:=Int.mul_le_mul_of_nonneg_left k1 (by have:=c_ al.length;omega)
  have k4:(4294967296:Int)^al.length=4294967296^m*4294967296*4294967296^(K+1):=by
   rw[hK,<-Int.pow_succ,<-Int.pow_add];congr 1;omega
  rw[k4] at k2 k3
  have k6:(2147483648:Int)*(4294967296^m*4294967296*4294967296^(K+1))=4294967296^m*4294967296*4294967296^(K+1)*2147483648:=Int.mul_comm _ _
  have k7:(2147483648:Int)*(4294967296^m*4294967296)*4294967296^(K+1)=2147483648*(4294967296^m*4294967296*4294967296^(K+1)):=Int.mul_assoc ..
  have hPK:=c_ (K+1)
  have k8:(2147483648:Int)*(4294967296^m*4294967296)*4294967296^(K+1)<=(V:Int)*4294967296^(K+1):=Int.mul_le_mul_of_nonneg_right hVge (Int.le_of_lt hPK)
  omega
 have hup:=bs hu
 have hulk:u.length=K+m+3:=om
 rw[hulk] at hup
 have hvm:=hwv m
 have hvm1:=hwv (m+1)
 have hVexp:(V:Int)=(v.getD (m+1) 0*4294967296+v.getD m 0)*4294967296^m+pv v m:=by
  rw[hVp,pv,pv,ew1,Int.add_mul,Int.mul_assoc,Int.mul_comm 4294967296];omega
 have hvlo:=aV hwv m
 have htopge:2147483648<=v.getD (m+1) 0:=by
  rcases Int.lt_or_le (v.getD (m+1) 0) 2147483648 with hh | hh
  ·exfalso
   have k1:(v.getD (m+1) 0*4294967296+v.getD m 0+1)*4294967296^m<=(2147483647*4294967296+4294967296)*4294967296^m:=Int.mul_le_mul_of_nonneg_right om om
   rw[Int.add_mul] at k1
   omega
  ·exact hh
 have hV0:0<(V:Int):=om
 refine⟨λy=>∃j:Nat,y.1=(j:Int)-1/\j<=K+1/\y.2.1.length=K+m+3/\Words y.2.1/\y.2.2.length=K+1/\Words y.2.2/\(∀k,k<j->y.2.2.getD k 0=0)/\
   (val u:Int)=pv y.2.2 (K+1)*V+pv y.2.1 (K+m+3)/\pv y.2.1 (K+m+3)<V*4294967296^j,λy=>(y.1+1).toNat,
  ⟨K+1,rfl,Nat.le_refl _,hulk,hu,by simp[ek],Words.rep _,λk hk=>?_,?_,?_⟩,?_⟩
 ·show(List.replicate (K+1) (0:Int)).getD k 0=0
  rw[List.getD_eq_getElem?_getD,List.getElem?_replicate];split<;>rfl
 ·show(val u:Int)=pv (List.replicate (K+1) (0:Int)) (K+1)*V+pv u (K+m+3)
  rw[j4,<-hup];omega
 ·show pv u (K+m+3)<_
  rw[<-hup];exact hU
 clear hU hup hulk hul hu
 rintro⟨x,u1,q⟩ ⟨j,hx,hj,hul1,hu1,hql,hq,hqz,hsum,hrem⟩
 simp only at hx hj hul1 hu1 hql hq hqz hsum hrem
 subst hx
 refine condT (λhc=>?_) (λhc=>?_)
 ·obtain⟨i,rfl⟩:∃i,j=i+1:=⟨j-1,by omega⟩
  have ei:((i+1:Nat):Int)-1=(i:Int):=om
  have f1:(i:Int)+(v.length:Int)=((i+(m+2):Nat):Int):=om
  have f2:((i+(m+2):Nat):Int)-1=((i+(m+1):Nat):Int):=om
  have f3:((i+(m+2):Nat):Int)-2=((i+m:Nat):Int):=om
  have f4:((i+(m+2):Nat):Int)+1=((i+(m+3):Nat):Int):=om
  have f5:0+Int.toNat (i:Int)=i:=om
  have f6:Int.toNat ((i+(m+3):Nat):Int)-Int.toNat (i:Int)=m+3:=om
  have h1:=hu1 (i+(m+2))
  have h2:=hu1 (i+(m+1))
  have h3:=hu1 (i+m)
  have e32:(2:Int)^Int.toNat 32=4294967296:=rfl
  have g1:=wrap_u64_id (m:=u1.getD (i+(m+2)) 0) om om
  have g2:=wrap_u64_id (m:=u1.getD (i+(m+1)) 0) om om
  have g3:=wrap_u64_id (m:=u1.getD (i+m) 0) om om
  have g4:=wrap_u64_id (m:=v.getD (m+1) 0) om om
  have g5:=wrap_u64_id (m:=v.getD m 0) om om
  have g6:=wrap_u64_id (m:=u1.getD (i+(m+2)) 0*4294967296) om om
  have g7:=nj (x:=u1.getD (i+(m+1)) 0) (y:=u1.getD (i+(m+2)) 0*4294967296) 32 h2.1 h2.2 om (by show _ % 4294967296=0;omega) om
  simp only[ei,f1,f2,f3,f4,f5,f6,dV,e32,g1,g2,g3,g4,g5,g6,g7]
  obtain⟨P,hPd⟩:∃P,P=pv (u1.drop i) (m+3):=⟨_,rfl⟩
  have hPi:=c_ i
  have hud:Words (u1.drop i):=hu1.drop i
  have hPb:=aV hud (m+3)
  have htot:pv u1 (K+m+3)=pv u1 i+P*4294967296^i:=by
   have k0:K+m+3=i+((m+3)+(K-i)):=om
   rw[k0,io]
   congr 2
   rw[hPd]
   refine kC hud om ?_
   rw[k0,io,Int.pow_succ] at hrem
   have k1:=(aV hu1 i).1
   have k2:pv (u1.drop i) (m+3+(K-i))*4294967296^i<(V*4294967296)*4294967296^i:=by
    rw[Int.mul_assoc,Int.mul_comm 4294967296];omega
   have k3:=Int.lt_of_mul_lt_mul_right k2 (Int.le_of_lt hPi)
   have k4:(4294967296:Int)^(m+3)=4294967296^(m+2)*4294967296:=Int.pow_succ ..
   omega
  have hPV:P<V*4294967296:=by
   have k1:=(aV hu1 i).1
   rw[htot,Int.pow_succ] at hrem
   have k2:P*4294967296^i<(V*4294967296)*4294967296^i:=by
    rw[Int.mul_assoc,Int.mul_comm 4294967296];omega
   exact Int.lt_of_mul_lt_mul_right k2 (Int.le_of_lt hPi)
  have hP0:0<=P:=by rw[hPd];exact hPb.1
  have hPexp:P=((u1.getD (i+(m+2)) 0*4294967296+u1.getD (i+(m+1)) 0)*4294967296+u1.getD (i+m) 0)*4294967296^m+pv (u1.drop i) m:=by
   rw[hPd,pv,pv,pv,dz,dz,dz,ew,ew1]
   generalize (4294967296:Int)^m=B
   generalize pv (u1.drop i) m=z
   grind
  have hhd:u1.getD (i+(m+2)) 0<=v.getD (m+1) 0:=by
   rcases Int.lt_or_le (v.getD (m+1) 0) (u1.getD (i+(m+2)) 0) with hh | hh
   ·exfalso
    have k1:(v.getD (m+1) 0+1)*(4294967296^m*4294967296*4294967296)<=u1.getD (i+(m+2)) 0*(4294967296^m*4294967296*4294967296):=Int.mul_le_mul_of_nonneg_right om om
    have k2:P=u1.getD (i+(m+2)) 0*(4294967296^m*4294967296*4294967296)+pv (u1.drop i) (m+2):=by rw[hPd,pv,dz,ew];omega
    have k3:=(aV hud (m+2)).1
    have k4:(V:Int)=v.getD (m+1) 0*(4294967296^m*4294967296)+pv v (m+1):=by rw[hVp,pv,ew1];omega
    have k5:=(aV hwv (m+1)).2
    rw[ew1] at k5
    have k6:(V:Int)*4294967296<(v.getD (m+1) 0+1)*(4294967296^m*4294967296*4294967296):=by
     rw[Int.add_mul,<-Int.mul_assoc (v.getD (m+1) 0),k4];omega
    omega
   ·exact hh
  refine⟨by unfold rng;omega,⟨by omega,by omega⟩,by unfold rng;omega,by unfold rng;omega,⟨by omega,by omega⟩,by omega,by omega,λg=>0<=g/\g<4294967296/\P<(g+1)*V/\(g-1)*V<=P,
   qE (next3:=λg=>0<=g/\g<4294967296/\P<(g+1)*V/\(g-1)*V<=P) (G1:=rng ((i+(m+2):Nat):Int)) (G2:=rng ((i+m:Nat):Int)) (G3:=(0:Int)<=((i+m:Nat):Int)/\((i+m:Nat):Int)<(u1.length:Int)) (by unfold rng;omega) (by unfold rng;omega) ⟨by omega,by omega⟩ htopge hvm1.2 hvm ⟨h1.1,hhd⟩ h2 h3 hVexp hvlo hPexp (aV hud m) hPm hPV (λg a1 a2 a3 a4=>⟨a1,a2,a3,a4⟩),?_⟩
  rintro g ⟨hg0,hg1,hgU,hgL⟩
  have hPW:(4294967296:Int)^(m+3)=4294967296^(m+2)*4294967296:=Int.pow_succ ..
  refine⟨λy=>Words y.2/\y.2.length=K+m+3/\(∀k,k<i\/i+(m+3)<=k->y.2.getD k 0=u1.getD k 0)/\0<=y.1/\y.1<4294967296/\pv (y.2.drop i) (m+3)=P-y.1*V/\P-y.1*V<V,?_,?_⟩
  ·refine⟨by unfold rng;omega,by unfold rng;omega,⟨by omega,by omega,by omega⟩,?_⟩
   refine no hu1 hwv (by unfold SM;omega) om om hg0 hg1 (λw b hw hwl hwz hb hwp=>⟨hwl,?_⟩)
   rw[hvv,<-hPd] at hwp
   have hwd:=aV (hw.drop i) (m+3)
   have hgs:(g-1)*(V:Int)=g*V-V:=by rw[Int.sub_mul];omega
   have hga:(g+1)*(V:Int)=g*V+V:=by rw[Int.add_mul];omega
   rcases hb with rfl | rfl
   ·refine⟨λhh=>(by cases hh),λ_=>⟨hw,by show w.length=_;omega,hwz,hg0,hg1,?_,?_⟩⟩
    ·show pv (w.drop i) (m+3)=P-g*V
     omega
    ·show P-g*V<V
     omega
   ·refine⟨λ_=>⟨by unfold rng;omega,by unfold rng;omega,⟨by omega,by omega,by omega⟩,?_⟩,λhh=>by cases hh⟩
    refine np hw hwv (by unfold SM;omega) om om (λw' c hw' hwl' hwz' hc' hwp'=>⟨hwl',?_⟩)
    rw[hvv] at hwp'
    have hwd':=aV (hw'.drop i) (m+3)
    have hg1':1<=g:=by
     rcases Int.lt_or_le g 1 with hh | hh
     ·have:g=0:=om
      subst this
      omega
     ·exact hh
    rw[wrap_u64_id (m:=g-1) om om]
    refine⟨hw',by show w'.length=_;omega,λk hk=>?_,by show 0<=g-1;omega,by show g-1<_;omega,?_,?_⟩
    ·show w'.getD k 0=_
     rw[hwz' k hk,hwz k hk]
    ·show pv (w'.drop i) (m+3)=P-(g-1)*V
     rcases hc' with rfl | rfl<;>omega
    ·show P-(g-1)*V<V
     omega
  ·rintro⟨g',u2⟩ ⟨hu2,hul2,hz2,hg0',hg1',hp2,hr2⟩
   simp only at hu2 hul2 hz2 hg0' hg1' hp2 hr2
   refine⟨⟨by omega,by omega⟩,by unfold rng;omega,⟨i,rfl,by omega,hul2,hu2,by simp[b6,hql],?_,λk hk=>?_,?_,?_⟩,by first | omega | (dsimp only;omega)⟩
   ·rw[wrap_u32,dk];exact hq.set _ om om
   ·show(b6 q (i:Int) _).getD k 0=0
    rw[dk,bx om];exact hqz k om
   ·show(val u:Int)=pv (b6 q (i:Int) (IntKind.u32.wrap g')) (K+1)*V+pv u2 (K+m+3)
    have k0:=oU hz2 (K+m+3) om
    have hgm:g' % 4294967296=g':=om
    rw[dk,wrap_u32,hgm,dK om (K+1) om,hqz i om,Int.sub_zero,hsum,Int.add_mul]
    rw[hp2,<-hPd] at k0
    have k1:(P-g'*V-P)*4294967296^i = - (g'*4294967296^i*V):=by
     have:P-g'*V-P = - (g'*V):=om
     rw[this,Int.neg_mul,Int.mul_right_comm]
    omega
   ·show pv u2 (K+m+3)<V*4294967296^i
    have k0:=oU hz2 (K+m+3) om
    rw[hp2,<-hPd,htot] at k0
    have k1:=(aV hu1 i).2
    have k2:(P-g'*V+1)*4294967296^i<=V*4294967296^i:=Int.mul_le_mul_of_nonneg_right om om
    have k3:(P-g'*V-P)*4294967296^i=(P-g'*V)*4294967296^i-P*4294967296^i:=by rw[Int.sub_mul]
    rw[Int.add_mul] at k2
    omega
 ·obtain rfl:j=0:=om
  rw[Int.pow_zero,Int.mul_one] at hrem
  have hq1:=bs hq
  have hu1v:=bs hu1
  rw[hql] at hq1
  rw[hul1] at hu1v
  rw[<-hq1,<-hu1v] at hsum
  rw[<-hu1v] at hrem
  have hsumN:val u=val q*V+val u1:=by
   have:((val u:Nat):Int)=((val q*V+val u1:Nat):Int):=by rw[Int.natCast_add,Int.natCast_mul];exact hsum
   omega
  have hVB:V=B*2^s:=hr4v
  have hps':0<2^s:=Nat.pow_pos om
  have hV0':0<V:=om
  have hdiv:A / B=val q:=by
   have k1:A*2^s / (B*2^s)=A / B:=Nat.mul_div_mul_right _ _ hps'
   rw[<-k1,<-huv,<-hVB,hsumN,Nat.add_comm,Nat.add_mul_div_right _ _ hV0',Nat.div_eq_of_lt om];omega
  have hmod:A % B=val u1 / 2^s:=by
   have k1:A*2^s % (B*2^s)=A % B*2^s:=Nat.mul_mod_mul_right _ _ _
   rw[<-huv,<-hVB,hsumN,Nat.add_comm,Nat.add_mul_mod_self_right,Nat.mod_eq_of_lt om] at k1
   rw[k1,Nat.mul_div_cancel _ hps']
  refine bp hq (by unfold SM;omega) (mo hu1 (by unfold SM;omega) om (λr hr hrl hrv=>bp hr (by unfold SM;omega) ?_))
  rw[hrv,<-hmod,<-hdiv]
  exact h
theorem jP {a b:List Int} {Q:List Int->Prop} (ha:Words a) (hb:Words b) (la:a.length<=1099511627774) (lb:b.length<=1099511627774) (h:Q (lim (Nat.gcd (val a) (val b)))):fu a b Q:=by
 refine bp ha (by unfold SM;omega) (bp hb (by unfold SM;omega) ?_)
 have b1:=cB ha
 have b2:=cB hb
 refine⟨λy=>∃m n:Nat,y=(lim m,lim n)/\(lim m).length<=1099511627774/\(lim n).length<=1099511627774/\Nat.gcd m n=Nat.gcd (val a) (val b),λy=>val y.2,⟨_,_,rfl,by omega,by omega,rfl⟩,?_⟩
 rintro _ ⟨m,n,rfl,hm,hn,hg⟩
 refine condT (λhc=>?_) (λhc=>?_)
 ·have hn0:n≠0:=by rintro rfl;rw[ce] at hc;simp at hc
  refine hO (ap m) (ap n) hm hn (λh0=>absurd (by rw[aK] at h0;exact h0) hn0) (λ_=>?_)
  rw[aK,aK]
  have hlt:=Nat.mod_lt m (Nat.pos_of_ne_zero hn0)
  refine⟨⟨n,m % n,rfl,hn,Nat.le_trans (cn (Nat.le_of_lt hlt)) hn,?_⟩,?_⟩
  ·rw[<-hg,Nat.gcd_comm n,<-Nat.gcd_rec,Nat.gcd_comm]
  ·show val (lim (m % n))<val (lim n)
   rw[aK,aK];exact hlt
 ·have hn0:n=0:=by
   rcases Nat.eq_zero_or_pos n with h0 | h0
   ·exact h0
   ·rw[dm h0] at hc;simp at hc
  subst hn0
  rw[Nat.gcd_zero_right] at hg
  rw[<-hg] at h
  exact h
end Go.Gg
namespace Go.Gg
theorem mJ {l:List Int} {n:Nat} {x:Int} (h:l.length=n):pv (l++[x]) (n+1)=pv l n+x*4294967296^n:=by
 rw[pv,rN om,jT om]
 have:n-l.length=0:=om
 rw[this];rfl
theorem Words.one {x:Int} (h0:0<=x) (h1:x<4294967296):Words [x]:=Words.nil.cons h0 h1
theorem pe {l:List Int} {x:Int} (h:l.length<=1099511627776):(l++[x]).length*4<=140737488355328:=by simp;omega
theorem bP {a:List Int} {i:Nat} {Q:Int->Prop} (hw:Words a) (h:Q (a.getD i 0)):bA a (i:Int) Q:=by
 refine condT (λhc=>⟨⟨by omega,hc⟩,?_⟩) (λhc=>?_)
 ·rw[dV]
  have:=hw i
  rw[wrap_u64_id om om]
  exact h
 ·rw[jC om] at h
  exact h
theorem cG {a:List Int} {Q:List Int->Prop} (hw:Words a) (hl:SM a) (h:Q (lim (val a))):b8 a Q:=by
 refine⟨λn=>∃j:Nat,n=j/\j<=a.length/\(∀i,j<=i->i<a.length->a.getD i 0=0)/\(0<j->a.getD (j-1) 0≠0),?_,?_⟩
 ·refine⟨λn=>∃j:Nat,n=j/\j<=a.length/\(∀i,j<=i->i<a.length->a.getD i 0=0),λn=>n.toNat,⟨a.length,rfl,Nat.le_refl _,λi h1 h2=>om⟩,?_⟩
  rintro n ⟨j,rfl,hj,hz⟩
  refine condT (λhc=>⟨by unfold rng;omega,⟨by omega,by omega⟩,c7 (λhe=>⟨by unfold rng;omega,⟨j-1,by omega,by omega,λi h1 h2=>?_⟩,by dsimp only;omega⟩) (λhe=>⟨j,rfl,hj,hz,λ_=>?_⟩)⟩) (λhc=>⟨j,rfl,hj,hz,λh0=>om⟩)
  ·by_cases hi:i=j-1
   ·subst hi
    rw[lK] at he
    have:((j:Int)-1).toNat=j-1:=om
    rwa[this] at he
   ·exact hz i om h2
  ·rw[lK] at he
   have:((j:Int)-1).toNat=j-1:=om
   rwa[this] at he
 ·rintro n ⟨j,rfl,hj,hz,hlast⟩
  have e:=kK hw hj hz hlast
  refine⟨⟨by omega,by omega,by omega⟩,?_,?_⟩
  ·simp[eh]
   have:min j a.length<=a.length:=om
   omega
  ·rw[<-e] at h
   simpa[eh] using h
theorem l5 {a b:List Int} {Q:Int->Prop} (ha:Words a) (hb:Words b) (la:SM a) (lb:SM b) (h:Q (iR (val a) (val b))):fF a b Q:=by
 unfold SM at la lb
 obtain⟨N,hN⟩:∃N,N=max a.length b.length:=⟨_,rfl⟩
 have hNi:max (a.length:Int) (b.length:Int)=(N:Int):=om
 have v1:=c8 ha (i:=N) om
 have v2:=c8 hb (i:=N) om
 unfold fF
 rw[hNi]
 refine⟨by unfold rng;omega,e8 ⟨λi=>∃j:Nat,i=(j:Int)-1/\j<=N/\(∀k,j<=k->k<N->a.getD k 0=b.getD k 0),λi=>(i+1).toNat,⟨N,rfl,Nat.le_refl _,λk h1 h2=>om⟩,?_⟩⟩
 rintro _ ⟨j,rfl,hj,he⟩
 refine condT (λhc=>?_) (λhc=>?_)
 ·obtain⟨i,rfl⟩:∃i,j=i+1:=⟨j-1,by omega⟩
  have ei:((i+1:Nat):Int)-1=(i:Int):=om
  rw[ei]
  refine bP ha (bP hb (condT (λh1=>?_) (λh1=>bP ha (bP hb (condT (λh2=>?_) (λh2=>⟨by unfold rng;omega,⟨i,rfl,by omega,λk h3 h4=>?_⟩,by dsimp only;omega⟩))))))
  ·have:=ra ha hb (i:=i) (n:=N) om h1 (λk h1 h2=>he k om h2)
   rw[iR,if_pos om] at h;exact h
  ·have:=ra hb ha (i:=i) (n:=N) om h2 (λk h1 h2=>(he k om h2).symm)
   rw[iR,if_neg om,if_neg om] at h;exact h
  ·by_cases hk:k=i
   ·subst hk;omega
   ·exact he k om h4
 ·have:=fG (l:=a) (m:=b) N (λk hk=>he k om hk)
  rw[iR,if_neg om,if_pos om] at h;exact h
theorem l0 {a b:List Int} {Q:List Int->Int->Prop} (ha:Words a) (hb:Words b) (la:SM a) (lb:SM b) (h1:val a<val b->Q [] 3) (h2:val b<=val a->Q (lim (val a-val b)) 0):gO a b Q:=by
 refine l5 ha hb la lb (condT (λhc=>h1 (iQ.1 hc)) (λhc=>?_))
 have hge:val b<=val a:=by have:=mt iQ.2 hc;omega
 have h:=h2 hge
 clear h1 h2
 unfold SM at la lb
 refine⟨λy=>∃i:Nat,y.2.1=i/\i<=a.length/\y.2.2.length=i/\Words y.2.2/\0<=y.1/\y.1<=1/\pv y.2.2 i=pv a i-pv b i+y.1*4294967296^i,λy=>a.length-y.2.1.toNat,⟨0,rfl,by omega,rfl,Words.nil,by show(0:Int)<=0;omega,by show(0:Int)<=1;omega,by simp[pv]⟩,?_⟩
 rintro⟨c,x,out⟩ ⟨i,hx,hi,hlen,hw,hb0,hb1,hpv⟩
 simp only at hx hi hlen hw hb0 hb1 hpv
 subst hx
 have hxl:=ha i
 have hxm:=hb i
 obtain⟨q1,q2,q3⟩:=mR (a.getD i 0) (b.getD i 0) c hxl hxm ⟨hb0,hb1⟩
 refine condT (λhlt=>bP ha (bP hb (e8 ⟨pe om,by unfold rng;omega,?_,by dsimp only;omega⟩))) (λhge=>?_)
 ·simp only[wrap_u32]
  generalize IntKind.u64.wrap (IntKind.u64.wrap (a.getD i 0-b.getD i 0)-c)=d at *
  have e63:d / 2^Int.toNat 63=d / 9223372036854775808:=rfl
  refine⟨i+1,rfl,by omega,by simp[hlen],hw.append (Words.one om om),by simpa only[e63] using q2,by simpa only[e63] using q3,?_⟩
  simp only[e63]
  rw[mJ hlen,Int.pow_succ,pv,pv,hpv]
  have e:d % 4294967296=a.getD i 0-b.getD i 0-c+4294967296*(d / 9223372036854775808):=om
  rw[e]
  generalize d / 9223372036854775808=d'
  have a1:=Int.add_mul (a.getD i 0-b.getD i 0-c) (4294967296*d') (4294967296^i)
  have a2:=Int.sub_mul (a.getD i 0-b.getD i 0) c (4294967296^i)
  have a3:=Int.sub_mul (a.getD i 0) (b.getD i 0) (4294967296^i)
  have a4:4294967296*d'*4294967296^i=d'*(4294967296^i*4294967296):=by rw[Int.mul_comm 4294967296 d',Int.mul_assoc,Int.mul_comm 4294967296]
  omega
 ·obtain rfl:i=a.length:=om
  refine cG hw (by unfold SM;omega) ?_
  have e:val out=val a-val b:=by
   have a1:=c8 hw (i:=a.length) om
   have a2:=bs ha
   have a3:=aV ha a.length
   have a4:=aV hw a.length
   have a5:=aV hb a.length
   have a6:=bs hb
   rcases Nat.lt_or_ge a.length b.length with h | h
   ·have hm1:=jy hb (Nat.le_of_lt h)
    rcases (by omega:c=0\/c=1) with rfl | rfl
    ·have hz:pv b b.length=pv b a.length:=by
      refine kC hb (Nat.le_of_lt h) ?_
      omega
     omega
    ·omega
   ·have hm1:=c8 hb h
    rcases (by omega:c=0\/c=1) with rfl | rfl<;>omega
  rw[e]
  exact h
theorem tx {X C A1 B1 P1 P2:Int} (f1:0<=X) (f2:1*(P1*P2)<=C*(P1*P2)) (h:X+C*(P1*P2)=A1*B1) (a0:0<=A1) (a1:A1<P1) (_b0:0<=B1) (b1:B1<P2) (_p1:0<P1) (p2:0<P2):False:=by
 have h1:A1*B1<=A1*P2:=Int.mul_le_mul_of_nonneg_left om a0
 have h2:A1*P2<P1*P2:=Int.mul_lt_mul_of_pos_right a1 p2
 omega
set_option maxHeartbeats 1000000 in
theorem pF {a b:List Int} {Q:List Int->Prop} (ha:Words a) (hb:Words b) (la:a.length+b.length<=1099511627775) (h:Q (lim (val a*val b))):gP a b Q:=by
 obtain⟨N,hN⟩:∃N,N=a.length+b.length+1:=⟨_,rfl⟩
 have hNi:(a.length:Int)+(b.length:Int)+1=(N:Int):=om
 have hL:(b.length:Int)+1=((b.length+1:Nat):Int):=om
 unfold gP
 rw[hNi,hL]
 refine⟨by unfold rng;omega,by unfold rng;omega,kJ om om,?_⟩
 refine⟨λy=>∃i:Nat,y.1=i/\i<=a.length/\y.2.length=N/\Words y.2/\pv y.2 (i+b.length)=pv a i*pv b b.length/\(∀p,i+b.length<=p->y.2.getD p 0=0),λy=>a.length-y.1.toNat,
  ⟨0,rfl,by omega,by simp[ek],Words.rep _,by rw[mI,j4];simp[pv],λp hp=>by rw[mI,List.getD_eq_getElem?_getD,List.getElem?_replicate];split<;>rfl⟩,?_⟩
 rintro⟨x,out⟩ ⟨i,hx,hi,hlen,hw,hpv,hz⟩
 simp only at hx hi hlen hw hz hpv
 subst hx
 have hxi:=ha i
 refine condT (λhlt=>⟨⟨by omega,hlt⟩,by unfold rng;omega,?_⟩) (λhge=>?_)
 ·have hbl:pv b (b.length+1)=pv b b.length:=l6 _ om
  refine⟨λy=>∃k:Nat,y.2.1=k/\k<=b.length+1/\y.2.2.length=N/\Words y.2.2/\(∀p,i+(b.length+1)<=p->y.2.2.getD p 0=0)/\0<=y.1/\y.1<4294967296/\(k=b.length+1->y.1=0)/\
    pv y.2.2 N+y.1*4294967296^(i+k)=pv a i*pv b b.length+a.getD i 0*4294967296^i*pv b k,λy=>b.length+1-y.2.1.toNat,
   ⟨0,rfl,by omega,hlen,hw,λp hp=>hz p om,by show(0:Int)<=0;omega,by show(0:Int)<_;omega,by omega,?_⟩,?_⟩
  ·show pv out N+0*_=_
   rw[iJ (j:=i+b.length) N om (λk h1 h2=>hz k h1),hpv];simp[pv]
  clear hpv hz hw hlen h
  rintro⟨c,x1,out2⟩ ⟨k,hx,hk,hlen,hw,hz,hc0,hc1,hck,hpv⟩
  simp only at hx hk hlen hw hz hc0 hc1 hck hpv
  subst hx
  have hy:=hb k
  have ho:=hw (i+k)
  obtain⟨q1,q2⟩:=pT hxi hy
  have eik:(i:Int)+(k:Int)=((i+k:Nat):Int):=om
  refine condT (λhlt2=>⟨b.getD k 0,bP hb rfl,by unfold rng;omega,⟨by omega,by omega⟩,by unfold rng;omega,⟨by omega,by omega⟩,e8 ⟨by unfold rng;omega,?_,by dsimp only;omega⟩⟩) (λhge2=>⟨by unfold rng;omega,?_,by dsimp only;omega⟩)
  ·simp only[eik,dV,dk]
   simp (disch:=omega) only[wrap_u64_id,wrap_u32]
   have e32:∀z:Int,z / 2^Int.toNat 32=z / 4294967296:=λ_=>rfl
   simp only[e32]
   generalize hv:a.getD i 0*b.getD k 0+out2.getD (i+k) 0+c=v
   have hnew:pv (out2.set (i+k) (v % 4294967296)) N+v / 4294967296*4294967296^(i+(k+1))=pv a i*pv b b.length+a.getD i 0*4294967296^i*pv b (k+1):=by
    rw[dK om N om,pv,<-Nat.add_assoc,Int.pow_succ,Int.mul_add,<-Int.add_assoc,<-hpv]
    have s1:=iF v (4294967296^(i+k))
    have s2:=Int.sub_mul (v % 4294967296) (out2.getD (i+k) 0) (4294967296^(i+k))
    have s3:v*4294967296^(i+k)=a.getD i 0*4294967296^i*(b.getD k 0*4294967296^k)+out2.getD (i+k) 0*4294967296^(i+k)+c*4294967296^(i+k):=by
     rw[<-hv,Int.add_mul,Int.add_mul,Int.pow_add]
     congr 2
     rw[Int.mul_assoc,Int.mul_assoc,Int.mul_left_comm (b.getD k 0)]
    omega
   refine⟨k+1,rfl,by omega,by simp[hlen],hw.set _ om om,λp hp=>?_,by show 0<=v / 4294967296;omega,by show v / 4294967296<4294967296;omega,λhkb=>?_,hnew⟩
   ·show(out2.set (i+k) _).getD p 0=0
    rw[bx om];exact hz p hp
   ·show v / 4294967296=0
    have:k=b.length:=om
    have hy0:b.getD k 0=0:=jC om
    have ho0:out2.getD (i+k) 0=0\/True:=.inr trivial
    rw[hy0,Int.mul_zero] at hv
    rcases Int.lt_or_le v 4294967296 with h1 | h1
    ·omega
    ·exfalso
     have f1:=(aV (hw.set (i+k) (x:=v % 4294967296) om om) N).1
     have f2:1*(4294967296:Int)^(i+(k+1))<=v / 4294967296*4294967296^(i+(k+1)):=Int.mul_le_mul_of_nonneg_right om (by have:=c_ (i+(k+1));omega)
     have f3:=(aV ha (i+1)).2
     have f4:=aV hb b.length
     have f5:pv a i*pv b b.length+a.getD i 0*4294967296^i*pv b (k+1)=pv a (i+1)*pv b b.length:=by
      have:pv b (k+1)=pv b b.length:=l6 _ om
      rw[this,pv,Int.add_mul]
     have f7:(4294967296:Int)^(i+(k+1))=4294967296^(i+1)*4294967296^b.length:=by rw[<-Int.pow_add];congr 1;omega
     have f9:=c_ (i+1)
     have f10:=c_ b.length
     rw[f5,f7] at hnew
     rw[f7] at f2
     have f0:=(aV ha (i+1)).1
     generalize (4294967296:Int)^(i+1)=P1 at *
     generalize (4294967296:Int)^b.length=P2 at *
     generalize pv a (i+1)=A1 at *
     generalize pv b b.length=B1 at *
     exact tx f1 f2 hnew f0 f3 f4.1 f4.2 f9 f10
  ·obtain rfl:k=b.length+1:=om
   have:=hck rfl
   subst this
   refine⟨i+1,rfl,by omega,hlen,hw,?_,λp hp=>hz p om⟩
   show pv out2 (i+1+b.length)=pv a (i+1)*pv b b.length
   rw[<-iJ (j:=i+1+b.length) N om (λk h1 h2=>hz k om),pv,Int.add_mul]
   rw[hbl] at hpv
   omega
 ·obtain rfl:i=a.length:=om
  refine cG hw (by unfold SM;omega) ?_
  have e:val out=val a*val b:=by
   have a1:=c8 hw (i:=N) om
   rw[iJ (j:=a.length+b.length) N om (λk h1 h2=>hz k h1),hpv] at a1
   have a2:=bs ha
   have a3:=bs hb
   have:((val a*val b:Nat):Int)=(val a:Int)*(val b:Int):=by simp
   have:(val out:Int)=((val a*val b:Nat):Int):=by rw[this,a1,a2,a3]
   omega
  rw[e]
  exact h
end Go.Gg
namespace Go.Gg
theorem m3 {a:List Int} {n:Nat} {Q:List Int->Prop} (ha:Words a) (la:a.length<=1099511627775) (hn:n<=32) (h:Q (lim (val a*2^n))):iI a (n:Int) Q:=by
 have hpp:=da n
 have hs:=jv hn
 have hqp:=da (32-n)
 have hple:(2:Int)^n<=4294967296:=by
  have:(2:Int)^n*1<=2^n*2^(32-n):=Int.mul_le_mul_of_nonneg_left om om
  omega
 refine⟨λy=>∃i:Nat,y.2.1=i/\i<=a.length/\y.2.2.length=i/\Words y.2.2/\0<=y.1/\y.1<2^n/\pv y.2.2 i+y.1*4294967296^i=pv a i*2^n,λy=>a.length-y.2.1.toNat,⟨0,rfl,by omega,rfl,Words.nil,by show(0:Int)<=0;omega,hpp,by simp[pv]⟩,?_⟩
 rintro⟨c,x,out⟩ ⟨i,hx,hi,hlen,hw,hc0,hc1,hpv⟩
 simp only at hx hi hlen hw hc0 hc1 hpv
 subst hx
 have hxi:=ha i
 refine condT (λhlt=>⟨⟨by omega,hlt⟩,⟨by omega,by omega⟩,?_⟩) (λhge=>?_)
 ·rw[dV,Int.toNat_natCast]
  have hy0:0<=a.getD i 0*2^n:=Int.mul_nonneg hxi.1 om
  have hy1:a.getD i 0*2^n<=4294967295*2^n:=Int.mul_le_mul_of_nonneg_right om om
  have hmod:a.getD i 0*2^n % 2^n=0:=Int.mul_emod_left _ _
  have hor:bits .or .u64 c (a.getD i 0*2^n)=a.getD i 0*2^n+c:=oV n hc0 hc1 hy0 hmod om
  rw[wrap_u64_id hxi.1 om,wrap_u64_id hy0 om,hor]
  refine e8 ⟨pe om,by unfold rng;omega,?_,by dsimp only;omega⟩
  have e32:∀z:Int,z / 2^Int.toNat 32=z / 4294967296:=λ_=>rfl
  rw[e32,wrap_u32]
  generalize hd:a.getD i 0*2^n+c=d
  refine⟨i+1,rfl,by omega,by simp[hlen],hw.append (Words.one om om),by show 0<=d / 4294967296;omega,?_,?_⟩
  ·show d / 4294967296<2^n
   rw[Int.ediv_lt_iff_lt_mul om];omega
  ·show pv (out++[d % 4294967296]) (i+1)+d / 4294967296*_=_
   rw[mJ hlen,Int.pow_succ,Int.add_assoc,iF,<-hd,pv,Int.add_mul,Int.add_mul,<-hpv,Int.mul_right_comm]
   omega
 ·obtain rfl:i=a.length:=om
  rw[wrap_u32]
  have hcm:c % 4294967296=c:=om
  rw[hcm]
  refine⟨pe om,cG (hw.append (Words.one hc0 om)) (by simp[SM];omega) ?_⟩
  have e:val (out++[c])=val a*2^n:=by
   have a1:=c8 (hw.append (Words.one hc0 (by omega:c<4294967296))) (i:=a.length+1) (by simp;omega)
   rw[mJ hlen,hpv,<-bs ha] at a1
   have:((val a*2^n:Nat):Int)=(val a:Int)*2^n:=by simp
   omega
  rw[e];exact h
theorem oT {a:List Int} {n:Nat} {Q:List Int->Prop} (ha:Words a) (la:SM a) (hn:n<=32) (h:Q (lim (val a / 2^n))):ga a (n:Int) Q:=by
 unfold SM at la
 have hs:=jv hn
 have hpp:=da n
 have hqp:=da (32-n)
 unfold ga
 generalize hp:(2:Int)^n=p at *
 generalize (2:Int)^(32-n)=q at *
 refine⟨λy=>∃i:Nat,y.1=i/\i<=a.length/\y.2.length=i/\Words y.2/\pv y.2 i*p=pv a i-a.getD 0 0 % p+(a.getD i 0 % p)*4294967296^i,λy=>a.length-y.1.toNat,
  ⟨0,rfl,by omega,rfl,Words.nil,by simp[pv];omega⟩,?_⟩
 rintro⟨x,out⟩ ⟨i,hx,hi,hlen,hw,hpv⟩
 simp only at hx hi hlen hw hpv
 subst hx
 have h0:=ha i
 have h1:=ha (i+1)
 have e1:(i:Int)+1=((i+1:Nat):Int):=om
 refine condT (λhlt=>bP ha ⟨by unfold rng;omega,?_⟩) (λhge=>?_)
 ·rw[e1]
  refine bP ha ⟨⟨by omega,by omega⟩,pe om,by unfold rng;omega,?_,by dsimp only;omega⟩
  have e32:(2:Int)^Int.toNat 32=4294967296:=rfl
  rw[e32,Int.toNat_natCast,hp,wrap_u64_id om om,oV 32 h0.1 h0.2 om (by show _ % 4294967296=0;omega) om,wrap_u32]
  generalize ha0:a.getD i 0=x0 at *
  generalize ha1:a.getD (i+1) 0=x1 at *
  have hx0:0<=x0 / p:=Int.ediv_nonneg h0.1 om
  have hx0':x0 / p<q:=by rw[Int.ediv_lt_iff_lt_mul hpp,Int.mul_comm,hs];exact h0.2
  have hm0:0<=x1 % p:=Int.emod_nonneg _ om
  have hm1:x1 % p<p:=Int.emod_lt_of_pos _ hpp
  have hdv:(x1*4294967296+x0) / p=x1*q+x0 / p:=by
   rw[<-hs,Int.mul_left_comm,Int.add_comm,Int.add_mul_ediv_left _ _ om,Int.add_comm]
  have hk:(x1*4294967296+x0) / p % 4294967296=(x1 % p)*q+x0 / p:=by
   have d1:x1=p*(x1 / p)+x1 % p:=(Int.mul_ediv_add_emod x1 p).symm
   have d2:x1*q+x0 / p=(x1 % p)*q+x0 / p+4294967296*(x1 / p):=by
    have:x1*q=(p*(x1 / p)+x1 % p)*q:=by rw[<-d1]
    rw[this,Int.add_mul,Int.mul_right_comm,hs];omega
   rw[hdv,d2,Int.add_mul_emod_self_left]
   refine Int.emod_eq_of_lt ?_ ?_
   ·have:=Int.mul_nonneg hm0 (Int.le_of_lt hqp);omega
   ·have:(x1 % p)*q<=(p-1)*q:=Int.mul_le_mul_of_nonneg_right om om
    rw[Int.sub_mul,hs] at this;omega
  rw[hk]
  have hq0:=Int.mul_nonneg hm0 (Int.le_of_lt hqp)
  have hq1:(x1 % p)*q<=(p-1)*q:=Int.mul_le_mul_of_nonneg_right om om
  rw[Int.sub_mul,hs] at hq1
  refine⟨i+1,rfl,by omega,by simp[hlen],hw.append (Words.one om om),?_⟩
  show pv (out++[x1 % p*q+x0 / p]) (i+1)*p=pv a (i+1)-_+_
  rw[mJ hlen,pv,Int.add_mul,hpv,ha0,ha1,Int.pow_succ]
  have d0:x0=p*(x0 / p)+x0 % p:=(Int.mul_ediv_add_emod x0 p).symm
  have s1:(x1 % p*q+x0 / p)*4294967296^i*p=x1 % p*(4294967296^i*4294967296)+(p*(x0 / p))*4294967296^i:=by
   rw[Int.add_mul,Int.add_mul]
   congr 1
   ·rw[<-hs,Int.mul_assoc,Int.mul_assoc,Int.mul_left_comm q,Int.mul_comm q p]
   ·rw[Int.mul_right_comm,Int.mul_comm (x0 / p)]
  have s2:x0*4294967296^i=(p*(x0 / p))*4294967296^i+x0 % p*4294967296^i:=by
   rw[<-Int.add_mul,<-d0]
  omega
 ·obtain rfl:i=a.length:=om
  refine cG hw (by unfold SM;omega) ?_
  have a1:=bs hw
  have a2:=bs ha
  rw[hlen] at a1
  rw[jC (Nat.le_refl a.length),Int.zero_emod,Int.zero_mul,<-a2,<-a1] at hpv
  have hr0:0<=a.getD 0 0 % p:=Int.emod_nonneg _ om
  have hr1:a.getD 0 0 % p<p:=Int.emod_lt_of_pos _ hpp
  have e:(val a:Int) / p=val out:=by
   have:(val a:Int)=p*val out+a.getD 0 0 % p:=by rw[Int.mul_comm];omega
   rw[this,Int.add_comm,Int.add_mul_ediv_left _ _ om,Int.ediv_eq_zero_of_lt hr0 hr1];omega
  have e2:((val a / 2^n:Nat):Int)=(val a:Int) / p:=by rw[<-hp];simp
  have:val out=val a / 2^n:=om
  rw[this];exact h
theorem uW {y:Int} (h0:0<=y) (h1:y<4294967296):bits .and .u32 y 1=y % 2:=by
 obtain⟨m,rfl⟩:=Int.eq_ofNat_of_zero_le h0
 show IntKind.u32.wrap (((BitVec.ofInt 32 (m:Int)) &&& (BitVec.ofInt 32 1)).toNat:Int)=_
 rw[wrap_u32,BitVec.toNat_and,BitVec.toNat_ofInt,BitVec.toNat_ofInt]
 have e1:((m:Int) % ((2^32:Nat):Int)).toNat=m:=om
 have e2:((1:Int) % ((2^32:Nat):Int)).toNat=1:=om
 rw[e1,e2,Nat.and_one_is_mod]
 omega
theorem pf (m i:Nat):m &&& 2^i=if m.testBit i then 2^i else 0:=by
 refine Nat.eq_of_testBit_eq (λj=>?_)
 rw[Nat.testBit_and,Nat.testBit_two_pow]
 by_cases h:i=j
 ·subst h
  cases hb:m.testBit i<;>simp
 ·split<;>simp[h]
theorem uV {y:Int} (h0:0<=y) (h1:y<4294967296):bits .and .u32 y 2147483648=if y<2147483648 then 0 else 2147483648:=by
 obtain⟨m,rfl⟩:=Int.eq_ofNat_of_zero_le h0
 show IntKind.u32.wrap (((BitVec.ofInt 32 (m:Int)) &&& (BitVec.ofInt 32 2147483648)).toNat:Int)=_
 rw[wrap_u32,BitVec.toNat_and,BitVec.toNat_ofInt,BitVec.toNat_ofInt]
 have e1:((m:Int) % ((2^32:Nat):Int)).toNat=m:=om
 have e2:((2147483648:Int) % ((2^32:Nat):Int)).toNat=2^31:=by decide
 rw[e1,e2,pf]
 have:m.testBit 31=decide (2147483648<=m):=by
  rw[Nat.testBit_eq_decide_div_mod_eq]
  have e:m / 2^31=m / 2147483648:=rfl
  rw[e]
  by_cases hm:2147483648<=m
  ·have:m / 2147483648=1:=om
   rw[this];simp[hm]
  ·have:m / 2147483648=0:=om
   rw[this];simp[hm]
 rw[this]
 by_cases hm:2147483648<=m
 ·have h2:¬((m:Int)<2147483648):=om
  simp only[hm,decide_true,if_true]
  show _=if (m:Int)<2147483648 then _ else _
  rw[if_neg h2];rfl
 ·have h2:(m:Int)<2147483648:=om
  simp only[hm,decide_false,Bool.false_eq_true,if_false]
  show _=if (m:Int)<2147483648 then _ else _
  rw[if_pos h2];rfl
theorem tY {x p:Nat} (h:x<2^p):bn (x+2^p)=p+1:=by
 refine lI ?_ (λ_=>?_)
 ·rw[Nat.pow_succ];omega
 ·rw[Nat.add_sub_cancel];omega
theorem kz {a:List Int} {Q:Int->Prop} (ha:Words a) (la:SM a) (h:Q (bn (val a))):gb a Q:=by
 unfold SM at la
 refine⟨λy=>∃i:Nat,y.2=i/\i<=a.length/\y.1=((bn (pv a i).toNat:Nat):Int),λy=>a.length-y.2.toNat,⟨0,rfl,by omega,rfl⟩,?_⟩
 rintro⟨n,x⟩ ⟨i,hx,hi,hn⟩
 simp only at hx hi hn
 subst hx hn
 have hxi:=ha i
 obtain⟨w,hw⟩:∃w:Nat,a.getD i 0=w:=⟨(a.getD i 0).toNat,by omega⟩
 obtain⟨b1,b2⟩:=aV ha i
 obtain⟨A,hA⟩:∃A:Nat,pv a i=A:=⟨(pv a i).toNat,by omega⟩
 have hW:(4294967296:Int)^i=((2^(32*i):Nat):Int):=by rw[Nat.pow_mul];simp
 refine condT (λhlt=>⟨⟨by omega,hlt⟩,?_⟩) (λhge=>?_)
 ·refine⟨λy=>∃k:Nat,y.2=k/\k<=32/\y.1=((bn (A+w % 2^k*2^(32*i)):Nat):Int),λy=>32-y.2.toNat,⟨0,rfl,by omega,?_⟩,?_⟩
  ·show((bn (pv a i).toNat:Nat):Int)=_
   rw[hA];simp[Nat.mod_one]
  rintro⟨n,x⟩ ⟨k,hx,hk,hn⟩
  simp only at hx hk hn
  subst hx hn
  refine condT (λhk2=>⟨⟨by omega,by omega⟩,?_⟩) (λhk2=>⟨by unfold rng;omega,⟨i+1,rfl,by omega,?_⟩,by dsimp only;omega⟩)
  ·have hpk:0<2^k:=Nat.pow_pos om
   have ed:a.getD i 0 / 2^k=((w / 2^k:Nat):Int):=by rw[hw];simp
   have hdle:w / 2^k<=w:=Nat.div_le_self _ _
   have hsucc:w % 2^(k+1)=w % 2^k+2^k*(w / 2^k % 2):=Nat.mod_pow_succ
   generalize w / 2^k=z at *
   rw[dV,Int.toNat_natCast,ed,uW om om]
   refine c7 (λhe=>⟨by unfold rng;omega,by unfold rng;omega,by unfold rng;omega,by unfold rng;omega,⟨k+1,rfl,by omega,?_⟩,by dsimp only;omega⟩) (λhe=>⟨by unfold rng;omega,⟨k+1,rfl,by omega,?_⟩,by dsimp only;omega⟩)
   ·have h2:z % 2=1:=om
    show 32*(i:Int)+k+1=_
    rw[hsucc,h2,Nat.mul_one]
    have e:A+(w % 2^k+2^k)*2^(32*i)=(A+w % 2^k*2^(32*i))+2^(32*i+k):=by
     rw[Nat.add_mul,Nat.pow_add,Nat.mul_comm (2^(32*i)) (2^k)];omega
    have hlt2:A+w % 2^k*2^(32*i)<2^(32*i+k):=by
     have h3:w % 2^k<2^k:=Nat.mod_lt _ hpk
     have h4:(w % 2^k+1)*2^(32*i)<=2^k*2^(32*i):=Nat.mul_le_mul_right _ h3
     rw[Nat.pow_add,Nat.mul_comm (2^(32*i)) (2^k)]
     rw[Nat.add_mul] at h4
     omega
    rw[e,tY hlt2];omega
   ·have h2:z % 2=0:=om
    show((bn (A+w % 2^k*2^(32*i)):Nat):Int)=_
    rw[hsucc,h2,Nat.mul_zero,Nat.add_zero]
  ·obtain rfl:k=32:=om
   show((bn (A+w % 2^32*2^(32*i)):Nat):Int)=((bn (pv a (i+1)).toNat:Nat):Int)
   have hm:w % 2^32=w:=Nat.mod_eq_of_lt om
   have:(pv a (i+1)).toNat=A+w*2^(32*i):=by
    have:pv a (i+1)=((A+w*2^(32*i):Nat):Int):=by rw[pv,hA,hw,hW,Int.natCast_add,Int.natCast_mul]
    omega
   rw[hm,this]
 ·obtain rfl:i=a.length:=om
  exact h
end Go.Gg
namespace Go.Gg
theorem un {s:Nat} (h:s<=31):rng ((s:Int)+1):=by unfold rng;omega
theorem uQ {s:Nat} (h:s<=31):32-((s:Int)+1).toNat<32-(s:Int).toNat:=om
theorem pa {m n:Nat}:0<iR m n↔n<m:=by
 unfold iR
 by_cases h:m<n
 ·simp only[h,if_true];omega
 ·rw[if_neg h];split<;>omega
theorem oc {R k:Nat} (h:R<4294967296^k):(R:Int)=pv (lim R) k:=by
 have h1:=eC h
 have h2:=c8 (ap R) h1
 rw[aK] at h2
 exact h2
theorem rn {g:Nat} (h:g<4294967296):val [(g:Int)]=g:=by
 rw[fA (Words.one om om),iC];omega
set_option maxHeartbeats 2000000 in
theorem jd {a b:List Int} {Q:List Int->List Int->Int->Prop} (ha:Words a) (hb:Words b) (la:a.length<=1099511627760) (lb:b.length<=1099511627760)
  (h0:val b=0->Q [] [] 8) (h:val b≠0->Q (lim (val a / val b)) (lim (val a % val b)) 0):fE a b Q:=by
 refine cG hb (by unfold SM;omega) ?_
 have b2:=cB hb
 have w2:=ap (val b)
 have v2:=aK (val b)
 refine c7 (λhc=>?_) (λhc=>?_)
 ·have:(lim (val b)).length=0:=om
  have:lim (val b)=[]:=List.eq_nil_of_length_eq_zero this
  rw[this,iC] at v2
  exact h0 v2.symm
 have hB:val b≠0:=by intro hh;rw[hh,ce] at hc;exact hc rfl
 replace h:=h hB
 clear h0
 obtain⟨m,hm⟩:∃m,(lim (val b)).length=m+1:=⟨(lim (val b)).length-1,by omega⟩
 have htop:=oY hB
 have hbd:=bs w2
 rw[v2] at hbd
 generalize hA:val a=A at *
 generalize hBv:val b=B at *
 generalize hlb:lim B=bl at *
 rw[hm] at htop hbd
 rw[Nat.add_sub_cancel] at htop
 have hwt:=w2 m
 have hml:(bl.length:Int)-1=(m:Int):=om
 obtain⟨tp,htp⟩:∃x:Nat,bl.getD m 0=x:=⟨(bl.getD m 0).toNat,by omega⟩
 rw[htp] at htop hwt
 have htp0:tp≠0:=om
 have c1:=kR (n:=tp)
 have c2:=iS htp0
 have c3:=jE (x:=tp) om
 have c4:bn tp≠0:=by unfold bn;rw[if_neg htp0];omega
 have hPm:=c_ m
 refine⟨λy=>∃s:Nat,y=s/\s<=32-bn tp,λy=>32-y.toNat,⟨0,rfl,by omega⟩,?_⟩
 rintro _ ⟨s,rfl,hs⟩
 have hps:=da s
 have hsle:(2:Int)^(bn tp)*2^s<=4294967296:=by
  have e1:(2:Int)^(bn tp+s)*2^(32-(bn tp+s))=4294967296:=fi (c:=32) om
  rw[<-Int.pow_add]
  have:=da (32-(bn tp+s))
  have h3:=da (bn tp+s)
  have:(2:Int)^(bn tp+s)*1<=2^(bn tp+s)*2^(32-(bn tp+s)):=Int.mul_le_mul_of_nonneg_left om om
  omega
 have f1:(tp:Int)+1<=2^(bn tp):=by exact_mod_cast c1
 have g1:((tp:Int)+1)*2^s<=2^(bn tp)*2^s:=Int.mul_le_mul_of_nonneg_right f1 om
 have g1':((tp:Int)+1)*2^s=tp*2^s+2^s:=by rw[Int.add_mul];omega
 have ht0:0<=(tp:Int)*2^s:=Int.mul_nonneg om om
 have hw32:(tp:Int)*2^s % 4294967296=tp*2^s:=Int.emod_eq_of_lt ht0 om
 rw[hml,dV,htp,Int.toNat_natCast,wrap_u32,hw32,uV ht0 om]
 have hs31:s<=31:=om
 have hr1:rng ((s:Int)+1):=un hs31
 have hr2:32-((s:Int)+1).toNat<32-((s:Int)).toNat:=uQ hs31
 refine⟨by unfold rng;omega,⟨by omega,by omega⟩,⟨by omega,by omega⟩,c7 (λhe=>⟨hr1,⟨s+1,rfl,?_⟩,hr2⟩) (λhe=>?_)⟩
 ·
  have hlt:(tp:Int)*2^s<2147483648:=by
   rcases Int.lt_or_le ((tp:Int)*2^s) 2147483648 with hh | hh
   ·exact hh
   ·rw[if_neg om] at he;cases he
  rcases Nat.lt_or_ge s (32-bn tp) with hh | hh
  ·omega
  ·exfalso
   have hse:s=32-bn tp:=om
   have e2:(2:Int)^(bn tp-1)*2^s=2147483648:=fi (c:=31) om
   have f2:(2:Int)^(bn tp-1)<=tp:=by exact_mod_cast c2
   have g2:(2:Int)^(bn tp-1)*2^s<=tp*2^s:=Int.mul_le_mul_of_nonneg_right f2 om
   omega
 have hge31:2147483648<=(tp:Int)*2^s:=by
  rcases Int.lt_or_le ((tp:Int)*2^s) 2147483648 with hh | hh
  ·rw[if_pos hh] at he;exact absurd rfl he
  ·exact hh
 clear he
 refine m3 ha om om (m3 w2 om om ?_)
 rw[hA,v2]
 obtain⟨A2,hA2⟩:∃A2,A2=A*2^s:=⟨_,rfl⟩
 obtain⟨B2,hB2⟩:∃B2,B2=B*2^s:=⟨_,rfl⟩
 rw[<-hA2,<-hB2]
 have hB2i:(B2:Int)=(B:Int)*2^s:=by rw[hB2];simp
 have hbm:=aV w2 m
 have hbd2:(B:Int)=pv bl m+tp*4294967296^m:=by rw[hbd,pv,htp]
 have ew1:(4294967296:Int)^(m+1)=4294967296^m*4294967296:=Int.pow_succ ..
 have hB2lt:(B2:Int)<4294967296^(m+1):=by
  have k1:(B:Int)+1<=(tp+1)*4294967296^m:=by rw[Int.add_mul];omega
  have k2:((B:Int)+1)*2^s<=((tp+1)*4294967296^m)*2^s:=Int.mul_le_mul_of_nonneg_right k1 om
  have k4:(((tp:Int)+1)*2^s)*4294967296^m<=4294967296*4294967296^m:=Int.mul_le_mul_of_nonneg_right om om
  rw[Int.mul_right_comm] at k2
  rw[Int.add_mul] at k2
  rw[hB2i,ew1]
  omega
 have hB2ge:2147483648*4294967296^m<=(B2:Int):=by
  have k1:(tp:Int)*4294967296^m<=B:=om
  have k2:(tp:Int)*4294967296^m*2^s<=B*2^s:=Int.mul_le_mul_of_nonneg_right k1 om
  have k3:2147483648*4294967296^m<=(tp:Int)*2^s*4294967296^m:=Int.mul_le_mul_of_nonneg_right hge31 om
  rw[Int.mul_right_comm] at k2
  omega
 have hB20:0<B2:=om
 have hB2N:B2<4294967296^(m+1):=by
  have:((4294967296^(m+1):Nat):Int)=(4294967296:Int)^(m+1):=by simp
  omega
 have wA:=ap A2
 have vA:=aK A2
 have wB:=ap B2
 have hlB:(lim B2).length<=m+1:=eC hB2N
 have hLA:(lim A2).length<=1099511627762:=by
  have k1:A<4294967296^a.length:=by rw[<-hA];exact jX ha
  have k2:A*2^s<4294967296^(a.length+1):=by
   rw[Nat.pow_succ]
   have k3:2^s<=2^32:=Nat.pow_le_pow_right om om
   exact Nat.mul_lt_mul_of_lt_of_le k1 k3 om
  rw[hA2]
  have:=eC k2
  omega
 have hBtop:=oc hB2N
 generalize hlA2:lim A2=al at *
 generalize hlB2:lim B2=bl2 at *
 obtain⟨L,hL⟩:∃L,al.length=L:=⟨_,rfl⟩
 have hApv:(A2:Int)=pv al L:=by rw[<-vA,<-hL];exact bs wA
 obtain⟨r0,hr0⟩:∃r0,r0=[]++eh al (max 0 ((al.length:Int)-(bl.length:Int)+1)) (al.length:Int):=⟨_,rfl⟩
 obtain⟨J,hJ⟩:∃J,J=L-m:=⟨_,rfl⟩
 have hr0d:r0=al.drop J:=by
  rw[hr0]
  show []++(al.drop _).take _=_
  have e:(max 0 ((al.length:Int)-(bl.length:Int)+1)).toNat=J:=om
  rw[e,List.nil_append,Int.toNat_natCast]
  exact List.take_of_length_le (by simp)
 rw[<-hr0]
 refine⟨kJ om om,by unfold rng;omega,by unfold rng;omega,⟨by omega,by omega,by omega⟩,?_,by unfold rng;omega,?_⟩
 ·rw[hr0d];simp;omega
 have hr0w:Words r0:=by rw[hr0d];exact wA.drop J
 have hr0l:r0.length=L-J:=by rw[hr0d,List.length_drop,hL]
 have hsplit:(A2:Int)=pv al J+val r0*4294967296^J:=by
  have k0:L=J+(L-J):=om
  rw[hApv,k0,io,bs hr0w,hr0l,hr0d]
 have hr0B:val r0<B2:=by
  have k1:=jX hr0w
  have k2:4294967296^r0.length<=4294967296^m:=Nat.pow_le_pow_right om om
  have k3:((4294967296^m:Nat):Int)=(4294967296:Int)^m:=by simp
  omega
 refine⟨λy=>∃j:Nat,(y.2.1=(j:Int)-1\/(j=0/\y.2.1<0))/\j<=L/\Words y.1/\y.1.length<=m+1/\val y.1<B2/\y.2.2.length=L/\Words y.2.2/\(∀k,k<j->y.2.2.getD k 0=0)/\(A2:Int)=pv y.2.2 L*B2+val y.1*4294967296^j+pv al j,
  λy=>(y.2.1+1).toNat,⟨J,?_,by omega,hr0w,by show r0.length<=_;omega,hr0B,by simp[ek,hL],Words.rep _,λk hk=>?_,?_⟩,?_⟩
 ·show(al.length:Int)-(bl.length:Int)=(J:Int)-1\/J=0/\(al.length:Int)-(bl.length:Int)<0
  rcases Nat.lt_or_ge L (m+1) with hh | hh
  ·right;omega
  ·left;omega
 ·show(List.replicate ((al.length:Int)).toNat (0:Int)).getD k 0=0
  rw[List.getD_eq_getElem?_getD,List.getElem?_replicate];split<;>rfl
 ·show(A2:Int)=pv (List.replicate ((al.length:Int)).toNat (0:Int)) L*B2+val r0*4294967296^J+pv al J
  rw[j4];omega
 clear hsplit hr0B hr0w hr0l hr0 hr0d
 clear r0
 rintro⟨r,x,q⟩ ⟨j,hx,hj,hrw,hrl,hrB,hql,hqw,hqz,hsum⟩
 simp only at hx hj hrw hrl hrB hql hqw hqz hsum
 refine condT (λhc=>?_) (λhc=>?_)
 ·obtain⟨i,rfl⟩:∃i,j=i+1:=⟨j-1,by omega⟩
  obtain rfl:x=(i:Int):=om
  have hai:=wA i
  rw[dV]
  have hw1:Words ([al.getD i 0]++r):=(Words.one hai.1 hai.2).append hrw
  refine⟨⟨by omega,by omega⟩,by simp;omega,cG hw1 (by simp[SM];omega) ?_⟩
  obtain⟨R,hRd⟩:∃R,R=val ([al.getD i 0]++r):=⟨_,rfl⟩
  rw[<-hRd]
  have hRv:(R:Int)=al.getD i 0+4294967296*val r:=by
   rw[hRd]
   have:val ([al.getD i 0]++r)=(al.getD i 0).toNat+4294967296*val r:=fA hw1
   rw[this];omega
  have hRB:R<B2*4294967296:=om
  have hRn:R<4294967296^(m+2):=by
   have k1:B2*4294967296<4294967296^(m+1)*4294967296:=Nat.mul_lt_mul_of_pos_right hB2N om
   have k2:4294967296^(m+2)=4294967296^(m+1)*4294967296:=Nat.pow_succ ..
   omega
  have hRp:=oc hRn
  have wR:=ap R
  have hlR:(lim R).length<=m+2:=eC hRn
  have vR:=aK R
  have hmb:(bl.length:Int)=((m+1:Nat):Int):=om
  rw[hmb]
  refine bP wR ⟨by unfold rng;omega,bP wR ⟨by unfold rng;omega,bP wB ?_⟩⟩
  have h1:=wR (m+1)
  have h2:=wR m
  have h3:=wB m
  have hBt:(B2:Int)=pv bl2 m+bl2.getD m 0*4294967296^m:=by rw[hBtop,pv]
  have hb2m:=aV wB m
  have hr4:0<bl2.getD m 0:=by
   rcases Int.lt_or_le 0 (bl2.getD m 0) with hh | hh
   ·exact hh
   ·have:bl2.getD m 0=0:=om
    rw[this] at hBt;omega
  have e32:(2:Int)^Int.toNat 32=4294967296:=rfl
  rw[e32,wrap_u64_id (m:=(lim R).getD (m+1) 0*4294967296) om om,nj 32 h2.1 h2.2 om (by show _ % 4294967296=0;omega) om]
  generalize hhead:(lim R).getD (m+1) 0*4294967296+(lim R).getD m 0=head
  have hhead0:0<=head:=om
  have hq0:0<=head / bl2.getD m 0:=Int.ediv_nonneg hhead0 om
  have hq1:head / bl2.getD m 0<=head:=Int.ediv_le_self _ hhead0
  rw[Int.tdiv_eq_ediv_of_nonneg hhead0,wrap_u64_id hq0 om]
  refine⟨by omega,e8 ?_⟩
  obtain⟨g0,hg0⟩:∃g0:Nat,min (head / bl2.getD m 0) 4294967295=(g0:Int):=⟨(min (head / bl2.getD m 0) 4294967295).toNat,by omega⟩
  have hg0W:g0<4294967296:=om
  have hU:R<(g0+1)*B2:=by
   by_cases hcase:head / bl2.getD m 0<=4294967295
   ·have hge:head / bl2.getD m 0=g0:=om
    have k1:head<((g0:Int)+1)*bl2.getD m 0:=by
     have d1:head=bl2.getD m 0*(head / bl2.getD m 0)+head % bl2.getD m 0:=(Int.mul_ediv_add_emod head _).symm
     have d2:head % bl2.getD m 0<bl2.getD m 0:=Int.emod_lt_of_pos _ hr4
     rw[hge] at d1
     rw[Int.add_mul,Int.mul_comm];omega
    have k2:(head+1)*4294967296^m<=(((g0:Int)+1)*bl2.getD m 0)*4294967296^m:=Int.mul_le_mul_of_nonneg_right om om
    have k3:(R:Int)=pv (lim R) m+head*4294967296^m:=by
     rw[hRp,pv,pv,ew1,<-hhead,Int.add_mul,Int.mul_assoc ((lim R).getD (m+1) 0),Int.mul_comm 4294967296];omega
    have k4:=(aV wR m).2
    have k5:((g0:Int)+1)*B2=((g0:Int)+1)*pv bl2 m+(((g0:Int)+1)*bl2.getD m 0)*4294967296^m:=by rw[hBt,Int.mul_add,Int.mul_assoc]
    have k6:0<=((g0:Int)+1)*pv bl2 m:=Int.mul_nonneg om hb2m.1
    have k7:(((g0+1)*B2:Nat):Int)=((g0:Int)+1)*B2:=by simp
    rw[Int.add_mul] at k2
    omega
   ·have:g0=4294967295:=om
    subst this
    omega
  rw[hg0,wrap_u32]
  have hg0m:(g0:Int) % 4294967296=g0:=om
  rw[hg0m]
  refine pF wB (Words.one om om) (by simp;omega) ?_
  have vB:val bl2=B2:=by rw[<-hlB2];exact aK B2
  rw[rn hg0W,vB]
  refine⟨λy=>∃g:Nat,y=((g:Int),lim (B2*g))/\g<4294967296/\R<(g+1)*B2,λy=>y.1.toNat,⟨g0,rfl,hg0W,hU⟩,?_⟩
  rintro _ ⟨g,rfl,hgW,hgU⟩
  have wP:=ap (B2*g)
  have vP:=aK (B2*g)
  have hPl:(lim (B2*g)).length<=m+2:=by
   refine eC ?_
   rw[Nat.pow_succ]
   exact Nat.mul_lt_mul_of_lt_of_le hB2N om om
  refine l5 wP wR (by unfold SM;omega) (by unfold SM;omega) ?_
  rw[vP,vR]
  refine condT (λhgt=>?_) (λhle=>?_)
  ·have hgt':=pa.1 hgt
   have hg1:1<=g:=by
    rcases Nat.eq_zero_or_pos g with hh | hh
    ·subst hh;simp at hgt'
    ·exact hh
   have hmul:B2*(g-1)=B2*g-B2:=by rw[Nat.mul_sub,Nat.mul_one]
   have hBle:B2<=B2*g:=Nat.le_mul_of_pos_right _ hg1
   refine l0 wP wB (by unfold SM;omega) (by unfold SM;omega) (λhh=>?_) (λ_=>?_)
   ·rw[vP,vB] at hh;omega
   ·rw[vP,vB,wrap_u64_id (m:=(g:Int)-1) om om,<-hmul]
    refine⟨⟨g-1,?_,by omega,?_⟩,by dsimp only;omega⟩
    ·have:(g:Int)-1=((g-1:Nat):Int):=om
     rw[this]
    ·have:g-1+1=g:=om
     rw[this,Nat.mul_comm];exact hgt'
  ·have hle':B2*g<=R:=by
    rcases Nat.lt_or_ge R (B2*g) with hh | hh
    ·exact absurd (pa.2 hh) hle
    ·exact hh
   refine l0 wR wP (by unfold SM;omega) (by unfold SM;omega) (λhh=>?_) (λ_=>?_)
   ·rw[vP,vR] at hh;omega
   ·rw[vP,vR,wrap_u32,dk]
    have hgm:(g:Int) % 4294967296=g:=om
    rw[hgm]
    have hRlt:R-B2*g<B2:=by rw[Nat.add_mul,Nat.mul_comm g] at hgU;omega
    have hqil:i<q.length:=om
    refine⟨⟨by omega,by omega⟩,by unfold rng;omega,⟨i,.inl rfl,by omega,ap _,?_,?_,by simp[hql],hqw.set _ om om,λk hk=>?_,?_⟩,by dsimp only;omega⟩
    ·show(lim (R-B2*g)).length<=m+1
     exact eC om
    ·show val (lim (R-B2*g))<B2
     rw[aK];exact hRlt
    ·show(q.set i _).getD k 0=0
     rw[bx om];exact hqz k om
    ·show(A2:Int)=pv (q.set i (g:Int)) L*B2+val (lim (R-B2*g))*4294967296^i+pv al i
     rw[aK,dK hqil L om,hqz i om,Int.sub_zero,hsum,Int.add_mul,pv,Int.pow_succ]
     have k1:((R-B2*g:Nat):Int)=(R:Int)-B2*g:=by rw[Int.natCast_sub hle'];simp
     have k2:((R:Int)-B2*g)*4294967296^i=R*4294967296^i-g*4294967296^i*B2:=by
      generalize (4294967296:Int)^i=z
      grind
     have k3:(R:Int)*4294967296^i=al.getD i 0*4294967296^i+val r*(4294967296^i*4294967296):=by
      rw[hRv,Int.add_mul,Int.mul_comm 4294967296 (val r:Int),Int.mul_assoc,Int.mul_comm 4294967296]
     rw[k1,k2,k3]
     omega
 ·obtain rfl:j=0:=om
  have hq1:=bs hqw
  rw[hql] at hq1
  simp only[pv,Int.pow_zero,Int.mul_one,Int.add_zero] at hsum
  rw[<-hq1] at hsum
  have hsumN:A2=val q*B2+val r:=by
   have:((A2:Nat):Int)=((val q*B2+val r:Nat):Int):=by rw[Int.natCast_add,Int.natCast_mul];exact hsum
   omega
  have hps':0<2^s:=Nat.pow_pos om
  have hdiv:A / B=val q:=by
   have k1:A*2^s / (B*2^s)=A / B:=Nat.mul_div_mul_right _ _ hps'
   rw[<-k1,<-hA2,<-hB2,hsumN,Nat.add_comm,Nat.add_mul_div_right _ _ hB20,Nat.div_eq_of_lt hrB];omega
  have hmod:A % B=val r / 2^s:=by
   have k1:A*2^s % (B*2^s)=A % B*2^s:=Nat.mul_mod_mul_right _ _ _
   rw[<-hA2,<-hB2,hsumN,Nat.add_comm,Nat.add_mul_mod_self_right,Nat.mod_eq_of_lt hrB] at k1
   rw[k1,Nat.mul_div_cancel _ hps']
  refine cG hqw (by unfold SM;omega) (oT hrw (by unfold SM;omega) om ?_)
  rw[<-hmod,<-hdiv]
  exact h
theorem pG {a b:List Int} {Q:List Int->Prop} (ha:Words a) (hb:Words b) (la:a.length<=1099511627760) (lb:b.length<=1099511627760) (h:Q (lim (Nat.gcd (val a) (val b)))):jc a b Q:=by
 refine cG ha (by unfold SM;omega) (cG hb (by unfold SM;omega) ?_)
 have b1:=cB ha
 have b2:=cB hb
 refine⟨λy=>∃m n:Nat,y=(lim m,lim n)/\(lim m).length<=1099511627760/\(lim n).length<=1099511627760/\Nat.gcd m n=Nat.gcd (val a) (val b),λy=>val y.2,⟨_,_,rfl,by omega,by omega,rfl⟩,?_⟩
 rintro _ ⟨m,n,rfl,hm,hn,hg⟩
 refine condT (λhc=>?_) (λhc=>?_)
 ·have hn0:n≠0:=by rintro rfl;rw[ce] at hc;simp at hc
  refine jd (ap m) (ap n) hm hn (λh0=>absurd (by rw[aK] at h0;exact h0) hn0) (λ_=>?_)
  rw[aK,aK]
  have hlt:=Nat.mod_lt m (Nat.pos_of_ne_zero hn0)
  refine⟨⟨n,m % n,rfl,hn,Nat.le_trans (cn (Nat.le_of_lt hlt)) hn,?_⟩,?_⟩
  ·rw[<-hg,Nat.gcd_comm n,<-Nat.gcd_rec,Nat.gcd_comm]
  ·show val (lim (m % n))<val (lim n)
   rw[aK,aK];exact hlt
 ·have hn0:n=0:=by
   rcases Nat.eq_zero_or_pos n with h0 | h0
   ·exact h0
   ·rw[dm h0] at hc;simp at hc
  subst hn0
  rw[Nat.gcd_zero_right] at hg
  rw[<-hg] at h
  exact h
end Go.Gg
namespace Go.Gg
theorem iN {σ:Type} {n:Nat} (J:Nat->σ->Prop) (ix:σ->Int) (c:Int) (hix:∀i y,J i y->ix y=i+c) {x0:σ} {body:σ->(σ->Prop)->Prop} (h0:J 0 x0)
  (hs:∀i y (next:σ->Prop),i<n->J i y->(∀z,J (i+1) z->next z)->body y next) (he:∀y (next:σ->Prop),J n y->body y next):bk x0 body:=by
 refine⟨λy=>∃i,i<=n/\J i y,λy=>n-(ix y-c).toNat,⟨0,Nat.zero_le _,h0⟩,?_⟩
 rintro y ⟨i,hi,hJ⟩
 rcases Nat.lt_or_ge i n with h | h
 ·refine hs i y _ h hJ λz hz=>⟨⟨i+1,h,hz⟩,?_⟩
  have h1:=hix i y hJ
  have h2:=hix (i+1) z hz
  dsimp only
  rw[h1,h2]
  omega
 ·obtain rfl:i=n:=om
  exact he y _ hJ
theorem jm {σ:Type} {n:Nat} (f:Nat->σ) (ix:σ->Int) (c:Int) (hix:∀i,ix (f i)=i+c) {x0:σ} {body:σ->(σ->Prop)->Prop} (h0:x0=f 0)
  (hs:∀i (next:σ->Prop),i<n->next (f (i+1))->body (f i) next) (he:∀(next:σ->Prop),body (f n) next):bk x0 body:=
 iN (λi y=>y=f i) ix c (λi y h=>by rw[h];exact hix i) h0 (λi y next hi hy hn=>hy▸hs i next hi (hn _ rfl)) (λy next hy=>hy▸he next)
theorem ku {n:Nat} (P:Nat->Prop) {E:Prop} {st:Int->(Int->Prop)->Prop} (hn:n<=9223372036854775807)
  (hs:∀(i:Nat) (next:Int->Prop),i<n->(∀j,j<i->¬P j)->(¬P i->rng ((i:Int)+1)/\next ((i:Int)+1))->st (i:Int) next)
  (he:(∀j,j<n->¬P j)->E):bk (σ:=Int) 0 (λx next=>ah (decide (x<(n:Int))) (st x next) E):=by
 refine iN (n:=n) (λi y=>y=(i:Int)/\∀j,j<i->¬P j) (λy=>y) 0 (λi y h=>by rw[h.1,Int.add_zero]) ⟨rfl,λj hj=>absurd hj om⟩ ?_ ?_
 ·rintro i _ next hi ⟨rfl,hI⟩ hn2
  refine condT (λhc=>hs i next hi hI λhP=>⟨by unfold rng;omega,hn2 _ ⟨by omega,λj hj=>?_⟩⟩) (λhc=>absurd (show(i:Int)<n by omega) hc)
  rcases Nat.lt_or_ge j i with h1 | h1
  ·exact hI j h1
  ·obtain rfl:j=i:=om
   exact hP
 ·rintro _ next ⟨rfl,hI⟩
  exact condT (λhc=>absurd hc om) (λ_=>he hI)
def gF (g:Nat->Int):Nat->Int
 | 0=>0
 | n+1=>if gF g n=0 then g n else gF g n
theorem cr {g:Nat->Int}:∀ {n:Nat},gF g n=0↔∀i,i<n->g i=0
 | 0=>⟨λ_ i hi=>absurd hi om,λ_=>rfl⟩
 | n+1=>by
  rw[gF]
  constructor
  ·intro h i hi
   split at h
   ·rename_i h1
    rcases Nat.lt_or_ge i n with h2 | h2
    ·exact cr.1 h1 i h2
    ·obtain rfl:i=n:=om
     exact h
   ·rename_i h1;exact absurd h h1
  ·intro h
   rw[if_pos (cr.2 λi hi=>h i om)]
   exact h n om
theorem gE {g:Nat->Int} {i:Nat} (h:∀j,j<i->g j=0) (hg:g i≠0):∀n,i<n->gF g n=g i
 | 0,hn=>absurd hn om
 | n+1,hn=>by
  rw[gF]
  rcases Nat.lt_or_ge i n with h1 | h1
  ·rw[gE h hg n h1,if_neg hg]
  ·obtain rfl:i=n:=om
   rw[if_pos (cr.2 h)]
end Go.Gg
namespace Go.Gg
def sgn (neg:Bool) (n:Nat):Int:=if neg then -(n:Int) else n
def aH (q:Rat):GRat:=if q.num=0 then ⟨false,[],[]⟩ else ⟨decide (q.num<0),lim q.num.natAbs,lim q.den⟩
def pH (a:GRat):Rat:=mkRat (sgn a.Neg (val a.Num)) (val a.Den)
def eqR (a b:GRat):Bool:=a.Neg == b.Neg && a.Num == b.Num && a.Den == b.Den
def okR (a:GRat):Bool:=eqR a (aH (pH a))
def bh (a:GRat):Rat:=if okR a then pH a else 0
theorem mM {a b:GRat}:eqR a b=true↔a=b:=by
 cases a;cases b
 simp[eqR,and_assoc]
theorem j2 {n:Int}:sgn (decide (n<0)) n.natAbs=n:=by
 unfold sgn
 by_cases h:n<0
 ·simp only[h,decide_true,if_true];omega
 ·simp only[h,decide_false,Bool.false_eq_true,if_false];omega
theorem m6 (q:Rat):pH (aH q)=q:=by
 unfold aH
 by_cases h:q.num=0
 ·rw[if_pos h]
  have:q=0:=Rat.num_eq_zero.1 h
  subst this
  simp[pH,sgn,iC]
 ·rw[if_neg h]
  simp only[pH]
  rw[aK,aK,j2,Rat.mkRat_self]
theorem ou (q:Rat):okR (aH q)=true:=by
 unfold okR
 rw[m6]
 exact mM.2 rfl
theorem cw (q:Rat):bh (aH q)=q:=by rw[bh,ou,if_pos rfl,m6]
theorem lq {a:GRat} (h:okR a=true):a=aH (bh a):=by
 have:=mM.1 h
 rw[bh,h,if_pos rfl]
 exact this
def fj (l:List Int):Bool:=decide (0<l.length) && (l.getD (l.length-1) 0 != 0)
theorem ot {n:Nat} (h:n≠0):fj (lim n)=true:=by
 have h1:=oY h
 have h2:(lim n).length≠0:=by rw[dm om];simp
 simp only[fj,Bool.and_eq_true,decide_eq_true_eq,bne_iff_ne]
 exact⟨by omega,h1⟩
theorem lm {l:List Int} (hw:Words l) (h:fj l=true):lim (val l)=l/\val l≠0:=by
 simp only[fj,Bool.and_eq_true,decide_eq_true_eq,bne_iff_ne] at h
 have h1:=rm hw (λ_=>h.2)
 refine⟨h1,λh0=>?_⟩
 rw[h0,ce] at h1
 rw[<-h1] at h
 simp at h
theorem uk {b:Bool} {n:Nat} (h:n≠0):decide (sgn b n<0)=b:=by
 cases b
 ·simp[sgn]
 ·simp[sgn];omega
theorem kr {b:Bool} {n:Nat}:(sgn b n).natAbs=n:=by cases b<;>simp[sgn]
theorem sZ {b:Bool}:sgn b 0=0:=by cases b<;>rfl
theorem vM {b:Bool} {n:Nat} (h:n≠0):sgn b n≠0:=by
 intro h0
 have:=kr (b:=b) (n:=n)
 rw[h0] at this
 exact h (by simpa using this.symm)
theorem nc {b:Bool} {n d:Nat} (hn:n≠0) (hd:d≠0):aH (mkRat (sgn b n) d)=⟨b,lim (n / Nat.gcd n d),lim (d / Nat.gcd n d)⟩:=by
 have e1:(mkRat (sgn b n) d).num=sgn b (n / Nat.gcd n d):=by
  rw[Rat.num_mkRat,if_neg hd,kr,Nat.gcd_comm]
  cases b
  ·simp[sgn]
  ·simp only[sgn,if_true]
   have:((Nat.gcd n d:Nat):Int) ∣ (n:Int):=Int.natCast_dvd_natCast.2 (Nat.gcd_dvd_left n d)
   rw[Int.neg_ediv_of_dvd this]
   simp
 have e2:(mkRat (sgn b n) d).den=d / Nat.gcd n d:=by rw[Rat.den_mkRat,if_neg hd,kr,Nat.gcd_comm]
 have hg:0<n / Nat.gcd n d:=Nat.div_pos (Nat.le_of_dvd om (Nat.gcd_dvd_left n d)) (Nat.gcd_pos_of_pos_left _ om)
 unfold aH
 rw[e1,e2,if_neg (vM om),uk om,kr]
theorem lj {b:Bool} {d:Nat}:aH (mkRat (sgn b 0) d)=⟨false,[],[]⟩:=by rw[sZ,Rat.zero_mkRat];rfl
theorem uy {a:GRat} (hn:Words a.Num) (hd:Words a.Den) :
  okR a=if a.Num.length=0/\a.Den.length=0 then !a.Neg else fj a.Num && (fj a.Den && decide (Nat.gcd (val a.Num) (val a.Den)=1)):=by
 obtain⟨b,n,d⟩:=a
 simp only at hn hd ⊢
 by_cases h:n.length=0/\d.length=0
 ·rw[if_pos h]
  obtain rfl:=List.eq_nil_of_length_eq_zero h.1
  obtain rfl:=List.eq_nil_of_length_eq_zero h.2
  simp only[okR,pH,iC,lj]
  cases b<;>rfl
 ·rw[if_neg h]
  cases hp:fj n with
  | false=>
   rw[Bool.false_and]
   cases ho:okR ⟨b,n,d⟩ with
   | false=>rfl
   | true=>
    exfalso
    have e:=lq ho
    unfold aH at e
    split at e
    ·cases e;exact h ⟨rfl,rfl⟩
    ·rename_i hz
     injection e with e1 e2 e3
     rw[e2,ot om] at hp
     cases hp
  | true=>
  rw[Bool.true_and]
  cases hq:fj d with
  | false=>
   rw[Bool.false_and]
   cases ho:okR ⟨b,n,d⟩ with
   | false=>rfl
   | true=>
    exfalso
    have e:=lq ho
    unfold aH at e
    split at e
    ·cases e;exact h ⟨rfl,rfl⟩
    ·rename_i hz
     injection e with e1 e2 e3
     rw[e3,ot (Rat.den_nz _)] at hq
     cases hq
  | true=>
  rw[Bool.true_and]
  obtain⟨n1,n2⟩:=lm hn hp
  obtain⟨d1,d2⟩:=lm hd hq
  have hm:aH (pH ⟨b,n,d⟩)=⟨b,lim (val n / Nat.gcd (val n) (val d)),lim (val d / Nat.gcd (val n) (val d))⟩:=nc n2 d2
  by_cases hg:Nat.gcd (val n) (val d)=1
  ·rw[hg] at hm
   simp only[hg,decide_true]
   rw[okR]
   refine mM.2 ?_
   rw[hm,Nat.div_one,Nat.div_one,n1,d1]
  ·simp only[hg,decide_false]
   cases ho:okR ⟨b,n,d⟩ with
   | false=>rfl
   | true=>
    exfalso
    have e:=mM.1 ho
    rw[hm] at e
    injection e with e1 e2 e3
    have e4:val n=val n / Nat.gcd (val n) (val d):=by
     have:=congrArg val e2
     rwa[aK] at this
    have hgp:0<Nat.gcd (val n) (val d):=Nat.gcd_pos_of_pos_left _ om
    have:=Nat.div_lt_self (n:=val n) om (show 1<Nat.gcd (val n) (val d) by omega)
    omega
def RB (k:Nat) (q:Rat):Prop:=q.num.natAbs<2^k/\q.den<2^k
theorem RB.mono {k l:Nat} {q:Rat} (h:RB k q) (hkl:k<=l):RB l q:=
 ⟨Nat.lt_of_lt_of_le h.1 (Nat.pow_le_pow_right om hkl),Nat.lt_of_lt_of_le h.2 (Nat.pow_le_pow_right om hkl)⟩
theorem dn {n k:Nat} (h:n<2^k):(lim n).length<=k / 32+1:=by
 refine eC (Nat.lt_of_lt_of_le h ?_)
 have:(4294967296:Nat)^(k / 32+1)=2^(32*(k / 32+1)):=by rw[Nat.pow_mul]
 rw[this]
 exact Nat.pow_le_pow_right om om
theorem ph (k:Nat) (hk:1<=k):RB k 0:=⟨by simp;exact Nat.pow_pos om,by
 have:2^1<=2^k:=Nat.pow_le_pow_right om hk
 simp;omega⟩
theorem dj {m n k l:Nat} (h:m<2^k) (h':n<2^l):m*n<2^(k+l):=by
 rw[Nat.pow_add]
 exact Nat.mul_lt_mul'' h h'
theorem nJ {n:Int} {d k:Nat} (hd:d≠0) (hn:n.natAbs<2^k) (hdk:d<2^k):RB k (mkRat n d):=by
 refine⟨?_,?_⟩
 ·rw[Rat.num_mkRat,if_neg hd]
  refine Nat.lt_of_le_of_lt ?_ hn
  exact Int.natAbs_ediv_le_natAbs _ _
 ·rw[Rat.den_mkRat,if_neg hd]
  exact Nat.lt_of_le_of_lt (Nat.div_le_self _ _) hdk
theorem lO {k l:Nat} {p q:Rat} (hp:RB k p) (hq:RB l q):RB (k+l) (p*q):=by
 rw[Rat.mul_def']
 refine nJ (Nat.mul_ne_zero p.den_nz q.den_nz) ?_ (dj hp.2 hq.2)
 rw[Int.natAbs_mul]
 exact dj hp.1 hq.1
theorem wt {k l:Nat} {p q:Rat} (hp:RB k p) (hq:RB l q):RB (k+l+1) (p+q):=by
 rw[Rat.add_def']
 refine nJ (Nat.mul_ne_zero p.den_nz q.den_nz) ?_ (Nat.lt_of_lt_of_le (dj hp.2 hq.2) (Nat.pow_le_pow_right om om))
 have h1:(p.num*q.den).natAbs<2^(k+l):=by rw[Int.natAbs_mul];exact dj hp.1 (by simpa using hq.2)
 have h2:(q.num*p.den).natAbs<2^(k+l):=by rw[Int.natAbs_mul,Nat.add_comm k l];exact dj hq.1 (by simpa using hp.2)
 have h3:=Int.natAbs_add_le (p.num*q.den) (q.num*p.den)
 rw[Nat.pow_succ]
 omega
theorem qQ {k:Nat} {p:Rat} (hp:RB k p):RB k (-p):=⟨by simpa using hp.1,hp.2⟩
theorem wq {k:Nat} {p:Rat} (hp:RB k p):RB k p⁻¹:=by
 by_cases h0:p.num=0
 ·have:p=0:=Rat.num_eq_zero.1 h0
  subst this
  simpa using hp
 ·refine⟨?_,?_⟩
  ·rw[Rat.num_inv,Int.natAbs_mul,Int.natAbs_sign_of_ne_zero h0,Nat.one_mul];simpa using hp.2
  ·rw[Rat.den_inv,if_neg h0];exact hp.1
theorem nK {k l:Nat} {p q:Rat} (hp:RB k p) (hq:RB l q):RB (k+l) (p / q):=by rw[Rat.div_def];exact lO hp (wq hq)
theorem lN {k l:Nat} {p q:Rat} (hp:RB k p) (hq:RB l q):RB (k+l+1) (p-q):=by rw[Rat.sub_eq_add_neg];exact wt hp (qQ hq)
theorem t5 {k:Nat} {n:Int} (hk:1<=k) (h:n.natAbs<2^k):RB k (n:Rat):=⟨h,by
 have:2^1<=2^k:=Nat.pow_le_pow_right om hk
 show 1<2^k
 omega⟩
theorem u9 {a:GRat} {m:Nat} (hn:Words a.Num) (hd:Words a.Den) (h1:a.Num.length<=m) (h2:a.Den.length<=m):RB (32*m+1) (bh a):=by
 unfold bh
 split
 ·unfold pH
  by_cases hd0:val a.Den=0
  ·rw[hd0,Rat.mkRat_zero];exact ph _ om
  ·have e:∀l:List Int,Words l->l.length<=m->val l<2^(32*m+1):=λl hw hl=>by
    have k1:=jX hw
    have k2:(4294967296:Nat)^l.length<=4294967296^m:=Nat.pow_le_pow_right om hl
    have k3:(4294967296:Nat)^m=2^(32*m):=by rw[Nat.pow_mul]
    have k4:2^(32*m)<=2^(32*m+1):=Nat.pow_le_pow_right om om
    omega
   exact nJ hd0 (by rw[kr];exact e _ hn h1) (e _ hd h2)
 ·exact ph _ om
end Go.Gg
namespace Go.Gg
def Fr (a:GRat):Prop:=Words a.Num/\Words a.Den/\a.Num.length<=1099511627760/\a.Den.length<=1099511627760
theorem nL {q:Rat} {k:Nat} (h:RB k q) (hk:k<=35184372088000):Fr (aH q):=by
 unfold aH
 split
 ·exact⟨Words.nil,Words.nil,by simp,by simp⟩
 ·have h1:=dn h.1
  have h2:=dn h.2
  exact⟨ap _,ap _,by dsimp only;omega,by dsimp only;omega⟩
theorem eT {n:Nat}:((lim n).length:Int)=0↔n=0:=by
 constructor
 ·intro h
  rcases Nat.eq_zero_or_pos n with h0 | h0
  ·exact h0
  ·rw[dm h0] at h;simp at h;omega
 ·rintro rfl;rw[ce];rfl
theorem d_ {n:Nat}:(bn n:Int)=0↔n=0:=by
 unfold bn
 split<;>omega
theorem q8 {b:Bool} {m n:Nat}:sgn b (m*n)=sgn b m*(n:Int):=by
 cases b<;>simp[sgn,Int.natCast_mul,Int.neg_mul]
theorem pA {b c:Bool} {m n:Nat}:sgn (b != c) (m*n)=sgn b m*sgn c n:=by
 cases b<;>cases c<;>simp[sgn,Int.natCast_mul,Int.neg_mul,Int.mul_neg,Int.neg_neg]
theorem um {b:Bool} {m n:Nat}:sgn b (m+n)=sgn b m+sgn b n:=by
 cases b<;>simp only[sgn,Bool.false_eq_true,if_false,if_true]<;>omega
theorem qY {b c:Bool} {m n:Nat} (hbc:¬b=c) (h:n<=m):sgn b (m-n)=sgn b m+sgn c n:=by
 cases b<;>cases c<;>first | exact absurd rfl hbc | (simp only[sgn,Bool.false_eq_true,if_false,if_true];omega)
theorem i_ (q:Rat):sgn (decide (q.num<0)) q.num.natAbs=q.num:=j2
theorem oG:val [1]=1:=rn (g:=1) om
theorem wL:lim 1=[1]:=by rw[dm om];simp[ce]
theorem oE:Words [1]:=Words.one om om
theorem cy {neg:Bool} {num den:List Int} {Q:GRat->Prop} (hn:Words num) (hd:Words den) (ln:num.length<=1099511627760) (ld:den.length<=1099511627760)
  (h0:val den≠0) (h:Q (aH (mkRat (sgn neg (val num)) (val den)))):bF neg num den Q:=by
 refine nq hn (by unfold SM;omega) (c7 (λhc=>?_) (λhc=>?_))
 ·rw[d_] at hc
  rw[hc,lj] at h
  exact h
 ·have hn0:val num≠0:=λhh=>hc (d_.2 hh)
  rw[nc hn0 h0] at h
  have hgp:Nat.gcd (val num) (val den)≠0:=Nat.ne_of_gt (Nat.gcd_pos_of_pos_left _ om)
  refine jP hn hd om om ?_
  have hgl:(lim (Nat.gcd (val num) (val den))).length<=1099511627760:=by
   refine Nat.le_trans (cn (Nat.gcd_le_left _ om)) (Nat.le_trans (cB hn) ln)
  refine hO hn (ap _) om om (λhh=>absurd (by rwa[aK] at hh) hgp) (λ_=>?_)
  refine hO hd (ap _) om om (λhh=>absurd (by rwa[aK] at hh) hgp) (λ_=>?_)
  rw[aK]
  exact h
theorem ik {a:List Int} {Q:Bool->Prop} (la:a.length<=1099511627776) (h:Q (fj a)):d7 a Q:=by
 refine condT (λhc=>⟨by unfold rng;omega,by omega,?_⟩) (λhc=>?_)
 ·have e:fj a=(at' a ((a.length:Int)-1) != 0):=by
   have:(a.length:Int)-1=((a.length-1:Nat):Int):=om
   rw[this,dV]
   simp only[fj]
   rw[decide_eq_true (by omega:0<a.length),Bool.true_and]
  rw[<-e];exact h
 ·have e:fj a=false:=by
   simp only[fj]
   rw[decide_eq_false (by omega:¬0<a.length),Bool.false_and]
  rw[e] at h;exact h
theorem ct {b:Bool} {p q:Prop} (h1:b=true->p) (h2:b=false->q):ah b p q:=⟨h1,h2⟩
theorem mq {n:Nat} {Q:Int->Prop} (hl:(lim n).length<=1099511627776) (h:Q (iR n 1)):cm (lim n) [1] Q:=by
 refine dx (ap _) oE (by unfold SM;omega) (by unfold SM;simp) ?_
 rw[aK,oG]
 exact h
theorem tS {m n:Nat}:(iR m n == 0)=decide (m=n):=by
 unfold iR
 split
 ·rw[decide_eq_false om];rfl
 ·split
  ·rename_i h;rw[decide_eq_true h];rfl
  ·rename_i h;rw[decide_eq_false h];rfl
theorem il {a:GRat} {Q:Bool->Prop} (fa:Fr a) (h:Q (okR a)):d8 a Q:=by
 obtain⟨hn,hd,ln,ld⟩:=fa
 rw[uy hn hd] at h
 refine⟨λx=>x=decide (a.Num.length=0/\a.Den.length=0),?_,?_⟩
 ·refine c7 (λhc=>?_) (λhc=>?_)
  ·by_cases hd0:a.Den.length=0
   ·rw[decide_eq_true ⟨by omega,hd0⟩];simp;exact List.eq_nil_of_length_eq_zero hd0
   ·rw[decide_eq_false om];simp;intro hh;exact hd0 (by rw[hh];rfl)
  ·rw[decide_eq_false om]
 ·rintro _ rfl
  refine condT (λhc=>?_) (λhc=>?_)
  ·rw[if_pos hc] at h;exact h
  ·rw[if_neg hc] at h
   refine ik om (ct (λhp=>?_) (λhp=>?_))
   ·rw[hp,Bool.true_and] at h
    refine ik om (ct (λhq=>?_) (λhq=>?_))
    ·rw[hq,Bool.true_and] at h
     refine jP hn hd om om ?_
     have hgl:(lim (Nat.gcd (val a.Num) (val a.Den))).length<=1099511627760:=by
      refine Nat.le_trans (cn (Nat.gcd_le_left _ ?_)) (Nat.le_trans (cB hn) ln)
      have:=(lm hn hp).2
      omega
     show cm (lim (Nat.gcd (val a.Num) (val a.Den))) [1] (λr4=>Q (r4 == 0))
     refine mq om ?_
     rw[tS]
     exact h
    ·rw[hq,Bool.false_and] at h;exact h
   ·rw[hp,Bool.false_and] at h;exact h
theorem sH {a:GRat} (h:okR a=false):bh a=0:=by rw[bh,h];rfl
theorem qr {a:GRat} (h:okR a=true->a.Num.length=0):bh a=0:=by
 cases ho:okR a with
 | false=>exact sH ho
 | true=>
  have e:=lq ho
  have hl:=h ho
  unfold aH at e
  split at e
  ·rename_i hz;exact Rat.num_eq_zero.1 hz
  ·rename_i hz
   rw[e] at hl
   have:=eT.1 (by rw[hl];rfl)
   omega
theorem qs {a:GRat} (ho:okR a=true) (hl:a.Num.length≠0):(bh a).num≠0/\a=⟨decide ((bh a).num<0),lim (bh a).num.natAbs,lim (bh a).den⟩:=by
 have e:=lq ho
 by_cases hz:(bh a).num=0
 ·exfalso
  unfold aH at e
  rw[if_pos hz] at e
  rw[e] at hl
  exact hl rfl
 ·refine⟨hz,?_⟩
  unfold aH at e
  rw[if_neg hz] at e
  exact e
theorem bT {a:GRat} {Q:Bool->List Int->List Int->Prop} (fa:Fr a) (h:Q (decide ((bh a).num<0)) (lim (bh a).num.natAbs) (lim (bh a).den)):bz a Q:=by
 refine⟨λx=>x=(!okR a || decide (a.Num.length=0)),?_,?_⟩
 ·refine il fa (ct (λhc=>?_) (λhc=>?_))
  ·rw[hc];rfl
  ·rw[hc,Bool.false_or]
   by_cases hl:a.Num.length=0
   ·rw[decide_eq_true hl];simp;exact List.eq_nil_of_length_eq_zero hl
   ·rw[decide_eq_false hl];simp;intro hh;exact hl (by rw[hh];rfl)
 ·rintro _ rfl
  refine ct (λhc=>?_) (λhc=>?_)
  ·have hz:bh a=0:=qr (λho=>by rw[ho] at hc;simpa using hc)
   rw[hz] at h
   simp at h
   rw[ce,wL] at h
   exact h
  ·simp at hc
   obtain⟨_,e⟩:=qs hc.1 (λhl=>hc.2 (List.eq_nil_of_length_eq_zero hl))
   rw[show a.Neg=decide ((bh a).num<0) from by rw[e];simp[<-e],show a.Num=lim (bh a).num.natAbs from by rw[e];simp[<-e],show a.Den=lim (bh a).den from by rw[e];simp[<-e]]
   exact h
theorem km {q:Rat} {k:Nat} (h:RB k q):(lim q.num.natAbs).length<=k / 32+1/\(lim q.den).length<=k / 32+1:=⟨dn h.1,dn h.2⟩
theorem iL {m n k l:Nat} (h:m<2^k) (h':n<2^l):(lim (m*n)).length<=(k+l) / 32+1:=dn (dj h h')
theorem u5 {m n k:Nat} (h:m<2^k) (h':n<2^k):(lim (m+n)).length<=(k+1) / 32+1:=dn (by rw[Nat.pow_succ];omega)
theorem t2 (p q:Rat):p+q=mkRat (sgn (decide (p.num<0)) (p.num.natAbs*q.den)+sgn (decide (q.num<0)) (q.num.natAbs*p.den)) (p.den*q.den):=by
 rw[q8,q8,i_,i_,Rat.add_def']
theorem tF (p q:Rat):p*q=mkRat (sgn (decide (p.num<0) != decide (q.num<0)) (p.num.natAbs*q.num.natAbs)) (p.den*q.den):=by
 rw[pA,i_,i_,Rat.mul_def']
theorem tK {q:Rat} (_h:q.num≠0):q⁻¹=mkRat (sgn (decide (q.num<0)) q.den) q.num.natAbs:=by
 rw[Rat.inv_def]
 by_cases hn:q.num<0
 ·rw[decide_eq_true hn]
  have e:q.num = -((q.num.natAbs:Nat):Int):=om
  rw[<-Rat.divInt_ofNat]
  show Rat.divInt q.den q.num=Rat.divInt (-(q.den:Int)) _
  rw[<-Rat.divInt_neg',<-e]
 ·rw[decide_eq_false hn]
  have e:q.num=((q.num.natAbs:Nat):Int):=om
  rw[<-Rat.divInt_ofNat]
  show Rat.divInt q.den q.num=Rat.divInt (q.den:Int) _
  rw[<-e]
theorem qa (p:Rat) {q:Rat} (h:q.num≠0):p / q=mkRat (sgn (decide (p.num<0) != decide (q.num<0)) (p.num.natAbs*q.den)) (p.den*q.num.natAbs):=by
 rw[Rat.div_def,tK h,pA,i_]
 have:p=mkRat p.num p.den:=(Rat.mkRat_self p).symm
 rw[this,Rat.mkRat_mul_mkRat,<-this]
theorem tD (p:Rat) : -p=mkRat (sgn (!decide (p.num<0)) p.num.natAbs) p.den:=by
 have e:sgn (!decide (p.num<0)) p.num.natAbs = -p.num:=by
  by_cases h:p.num<0
  ·rw[decide_eq_true h];simp only[sgn,Bool.not_true,Bool.false_eq_true,if_false];omega
  ·rw[decide_eq_false h];simp only[sgn,Bool.not_false,if_true];omega
 rw[e,<-Rat.neg_mkRat,Rat.mkRat_self]
theorem na {a b:GRat} {k l:Nat} {Q:GRat->Prop} (fa:Fr a) (fb:Fr b) (ka:RB k (bh a)) (kb:RB l (bh b)) (hk:k+l+1<=35184372088000) (h:Q (aH (bh a+bh b))):gx a b Q:=by
 refine bT fa (bT fb ?_)
 generalize bh a=p at ka h ⊢
 generalize bh b=q at kb h ⊢
 have la:=km ka
 have lb:=km kb
 have l1:=iL ka.1 kb.2
 have l2:=iL kb.1 ka.2
 have l3:=iL ka.2 kb.2
 have hd:p.den*q.den≠0:=Nat.mul_ne_zero p.den_nz q.den_nz
 refine cY (ap _) (ap _) om (cY (ap _) (ap _) om (cY (ap _) (ap _) om ?_))
 simp only[aK]
 rw[t2] at h
 refine c7 (λhs=>?_) (λhs=>?_)
 ·refine n3 (ap _) (ap _) (by unfold SM;omega) ⟨by omega,by omega⟩ ?_
  simp only[aK]
  have l4:(lim (p.num.natAbs*q.den+q.num.natAbs*p.den)).length<=(k+l+1) / 32+1:=u5 (dj ka.1 kb.2) (by rw[Nat.add_comm k];exact dj kb.1 ka.2)
  refine cy (ap _) (ap _) om om (by rw[aK];exact hd) ?_
  rw[aK,aK,um]
  rw[<-hs] at h
  exact h
 ·refine dx (ap _) (ap _) (by unfold SM;omega) (by unfold SM;omega) ?_
  simp only[aK]
  refine condT (λhc=>?_) (λhc=>?_)
  ·have hle:q.num.natAbs*p.den<=p.num.natAbs*q.den:=by
    rcases Nat.lt_or_ge (p.num.natAbs*q.den) (q.num.natAbs*p.den) with h1 | h1
    ·have:=iQ.2 h1;omega
    ·exact h1
   refine jO (ap _) (ap _) (by unfold SM;omega) (by unfold SM;omega) (λhh=>by rw[aK,aK] at hh;omega) (λ_=>?_)
   simp only[aK]
   have l4:=cn (Nat.sub_le (p.num.natAbs*q.den) (q.num.natAbs*p.den))
   refine cy (ap _) (ap _) om om (by rw[aK];exact hd) ?_
   rw[aK,aK,qY hs hle]
   exact h
  ·have hle:p.num.natAbs*q.den<=q.num.natAbs*p.den:=by
    rcases Nat.lt_or_ge (p.num.natAbs*q.den) (q.num.natAbs*p.den) with h1 | h1
    ·omega
    ·exfalso
     apply hc
     unfold iR
     split
     ·omega
     ·split<;>omega
   refine jO (ap _) (ap _) (by unfold SM;omega) (by unfold SM;omega) (λhh=>by rw[aK,aK] at hh;omega) (λ_=>?_)
   simp only[aK]
   have l4:=cn (Nat.sub_le (q.num.natAbs*p.den) (p.num.natAbs*q.den))
   refine cy (ap _) (ap _) om om (by rw[aK];exact hd) ?_
   rw[aK,aK,qY (λe=>hs e.symm) hle,Int.add_comm]
   exact h
theorem m8 {a b:GRat} {k l:Nat} {Q:GRat->Prop} (fa:Fr a) (fb:Fr b) (ka:RB k (bh a)) (kb:RB l (bh b)) (hk:k+l+1<=35184372088000) (h:Q (aH (bh a*bh b))):cK a b Q:=by
 refine bT fa (bT fb ?_)
 generalize bh a=p at ka h ⊢
 generalize bh b=q at kb h ⊢
 have la:=km ka
 have lb:=km kb
 have l1:=iL ka.1 kb.1
 have l3:=iL ka.2 kb.2
 have hd:p.den*q.den≠0:=Nat.mul_ne_zero p.den_nz q.den_nz
 refine cY (ap _) (ap _) om (cY (ap _) (ap _) om ?_)
 simp only[aK]
 refine cy (ap _) (ap _) om om (by rw[aK];exact hd) ?_
 rw[aK,aK,<-tF]
 exact h
theorem m9 {a b:GRat} {k l:Nat} {Q:GRat->Option Int->Prop} (fa:Fr a) (fb:Fr b) (ka:RB k (bh a)) (kb:RB l (bh b)) (hk:k+l+1<=35184372088000)
  (h0:bh b=0->Q (aH 0) (some 8)) (h:bh b≠0->Q (aH (bh a / bh b)) none):c9 a b Q:=by
 refine bT fa (bT fb ?_)
 generalize bh a=p at ka h ⊢
 generalize bh b=q at kb h h0 ⊢
 have la:=km ka
 have lb:=km kb
 have l1:=iL ka.1 kb.2
 have l3:=iL ka.2 kb.1
 refine c7 (λhc=>?_) (λhc=>?_)
 ·rw[eT] at hc
  exact h0 (Rat.num_eq_zero.1 om)
 ·have hq:q.num≠0:=λhh=>hc (eT.2 om)
  have hd:p.den*q.num.natAbs≠0:=Nat.mul_ne_zero p.den_nz om
  refine cY (ap _) (ap _) om (cY (ap _) (ap _) om ?_)
  simp only[aK]
  refine cy (ap _) (ap _) om om (by rw[aK];exact hd) ?_
  rw[aK,aK,<-qa p hq]
  exact h (λhh=>hq (by rw[hh];rfl))
theorem m7 {a:GRat} {k:Nat} {Q:GRat->Prop} (fa:Fr a) (ka:RB k (bh a)) (hk:k<=35184372088000) (h:Q (aH (-bh a))):gv a Q:=by
 refine bT fa ?_
 generalize bh a=p at ka h ⊢
 have la:=km ka
 refine cy (ap _) (ap _) om om (by rw[aK];exact p.den_nz) ?_
 rw[aK,aK,<-tD]
 exact h
theorem jf {a b:GRat} {k l:Nat} {Q:GRat->Prop} (fa:Fr a) (fb:Fr b) (ka:RB k (bh a)) (kb:RB l (bh b)) (hk:k+l+1<=35184372088000) (h:Q (aH (bh a-bh b))):co a b Q:=by
 refine⟨_,m7 fb kb om rfl,_,na fa (nL (qQ kb) om) ka (by rw[cw];exact qQ kb) hk rfl,?_⟩
 rw[cw,<-Rat.sub_eq_add_neg]
 exact h
def oO (q:Rat):Int:=if q.num=0 then 0 else if q.num<0 then -1 else 1
theorem iV {a:GRat} {Q:Int->Prop} (fa:Fr a) (h:Q (oO (bh a))):cz a Q:=by
 refine bT fa ?_
 generalize bh a=p at h ⊢
 unfold oO at h
 refine c7 (λhc=>?_) (λhc=>?_)
 ·rw[eT] at hc
  rw[if_pos om] at h;exact h
 ·have hq:p.num≠0:=λhh=>hc (eT.2 om)
  rw[if_neg hq] at h
  refine condT (λhs=>?_) (λhs=>?_)
  ·rw[if_pos hs] at h;exact h
  ·rw[if_neg hs] at h;exact h
theorem m_ {a b:GRat} {k l:Nat} {Q:Int->Prop} (fa:Fr a) (fb:Fr b) (ka:RB k (bh a)) (kb:RB l (bh b)) (hk:k+l+1<=35184372088000) (h:Q (oO (bh a-bh b))):dJ a b Q:=by
 refine jf fa fb ka kb hk (iV (nL (lN ka kb) hk) ?_)
 rw[cw]
 exact h
theorem mh {n:Int} {Q:List Int->Prop} (hn:rng n) (h:Q (lim n.natAbs)):fN n Q:=by
 refine c7 (λhc=>?_) (λhc=>?_)
 ·subst hc
  have:lim (Int.natAbs (-9223372036854775808))=[0,2147483648]:=by
   rw[show Int.natAbs (-9223372036854775808)=9223372036854775808 from rfl,dm om,dm om]
   simp[ce]
  rw[this] at h
  exact h
 ·unfold rng at hn ⊢
  refine⟨by omega,kI om ?_⟩
  have:(max n (-n)).toNat=n.natAbs:=om
  rw[this]
  exact h
theorem nW {n:Int} {Q:GRat->Prop} (hn:rng n) (h:Q (aH (n:Rat))):dw n Q:=by
 refine mh hn ?_
 show bF _ _ [1] _
 have hl:(lim n.natAbs).length<=64 / 32+1:=dn (by unfold rng at hn;omega)
 refine cy (ap _) oE om (by simp) (by rw[oG];omega) ?_
 rw[aK,oG,j2,show mkRat n 1=(n:Rat) from Rat.mkRat_self (n:Rat)]
 exact h
end Go.Gg
namespace Go.Gg
theorem oS {neg:Bool} {num den:List Int} {Q:GRat->Int->Prop} (hn:Words num) (hd:Words den) (ln:num.length<=1099511627760) (ld:den.length<=1099511627760)
  (h8:val den=0->Q (aH 0) 8) (h:val den≠0->Q (aH (mkRat (sgn neg (val num)) (val den))) 0):iH neg num den Q:=by
 refine kz hd (by unfold SM;omega) (c7 (λhc=>?_) (λhc=>?_))
 ·exact h8 (d_.1 hc)
 have h0:val den≠0:=λhh=>hc (d_.2 hh)
 replace h:=h h0
 refine kz hn (by unfold SM;omega) (c7 (λhc=>?_) (λhc=>?_))
 ·rw[d_] at hc
  rw[hc,lj] at h
  exact h
 ·have hn0:val num≠0:=λhh=>hc (d_.2 hh)
  rw[nc hn0 h0] at h
  have hgp:Nat.gcd (val num) (val den)≠0:=Nat.ne_of_gt (Nat.gcd_pos_of_pos_left _ om)
  refine pG hn hd om om ?_
  have hgl:(lim (Nat.gcd (val num) (val den))).length<=1099511627760:=by
   refine Nat.le_trans (cn (Nat.gcd_le_left _ om)) (Nat.le_trans (cB hn) ln)
  refine jd hn (ap _) om om (λhh=>absurd (by rwa[aK] at hh) hgp) (λ_=>?_)
  refine jd hd (ap _) om om (λhh=>absurd (by rwa[aK] at hh) hgp) (λ_=>?_)
  rw[aK]
  exact h
theorem kw {n:Int} {Q:List Int->Prop} (hn:rng n) (h:∀l,Words l->l.length=2->val l=n.natAbs->Q l):f8 n Q:=by
 unfold rng at hn
 refine v9 ?_
 have key:∀u:Int,u=n.natAbs->Q [(IntKind.wrap .u32 u),(IntKind.wrap .u32 (u / 2^(Int.toNat 32)))]:=by
  intro u hu
  rw[wrap_u32,wrap_u32]
  have h32:(2:Int)^(Int.toNat 32)=4294967296:=rfl
  rw[h32]
  have hw2:Words [u / 4294967296 % 4294967296]:=Words.one om om
  have hw:Words [u % 4294967296,u / 4294967296 % 4294967296]:=by
   intro i
   match i with
   | 0=>simp;omega
   | 1=>simp;omega
   | i+2=>simp
  refine h _ hw rfl ?_
  rw[fA hw,fA hw2,iC]
  omega
 refine condT (λhc=>e8 ?_) (λhc=>?_)
 ·rw[i8,i8]
  exact key _ om
 ·rw[i8]
  exact key _ om
theorem kx {n d:Int} {Q:GRat->Int->Prop} (hn:rng n) (hd:rng d) (h0:d=0->Q (aH 0) 8) (h:d≠0->Q (aH ((n:Rat) / (d:Rat))) 0):f_ n d Q:=by
 refine kw hn λl1 w1 e1 v1=>kw hd λl2 w2 e2 v2=>?_
 refine oS w1 w2 om om (λhz=>?_) (λhz=>?_)
 ·exact h0 om
 ·rw[v1,v2]
  have hd0:d≠0:=om
  have e:=qa (n:Rat) (q:=(d:Rat)) (by simpa using hd0)
  simp only[Rat.num_intCast,Rat.den_intCast,Nat.mul_one,Nat.one_mul] at e
  have h2:=h hd0
  rw[e] at h2
  exact h2
theorem qq {n:Int} {Q:GRat->Prop} (hn:rng n) (h:Q (aH (n:Rat))):iG n Q:=by
 refine kx hn (by unfold rng;omega) (λhh=>absurd hh om) (λ_=>?_)
 have:(n:Rat) / ((1:Int):Rat)=n:=by
  rw[Rat.div_def]
  show(n:Rat)*(1:Rat)⁻¹=n
  rw[show(1:Rat)⁻¹=1 from(Rat.mul_one _).symm.trans (Rat.inv_mul_cancel 1 (by decide)),Rat.mul_one]
 rw[this]
 exact h
end Go.Gg
namespace Go.Gg
theorem vz {α:Type} [Inhabited α] {l m:List α} (hl:l.length=m.length) (h:∀i:Nat,i<l.length->at' l (i:Int)=at' m (i:Int)):l=m:=by
 refine List.ext_getElem hl λi h1 h2=>?_
 have:=h i h1
 simp only[at',Int.toNat_natCast,List.getD_eq_getElem?_getD,List.getElem?_eq_getElem h1,List.getElem?_eq_getElem h2,Option.getD_some] at this
 exact this
theorem kS {a b:List Int} {Q:Bool->Prop} (la:a.length<=1099511627776) (h:Q (decide (a=b))):gg a b Q:=by
 refine fI (λhc=>?_) (λhc=>?_)
 ·rw[decide_eq_false (λe=>hc (by rw[e]))] at h;exact h
 ·have hl:a.length=b.length:=om
  refine⟨λx=>∃i:Nat,x=i/\i<=a.length/\∀j:Nat,j<i->at' a (j:Int)=at' b (j:Int),λx=>a.length-x.toNat,⟨0,rfl,by omega,λj hj=>absurd hj om⟩,?_⟩
  rintro _ ⟨i,rfl,hi,hI⟩
  refine condT (λhc=>⟨⟨by omega,hc⟩,⟨by omega,by omega⟩,fI (λhne=>?_) (λhe=>⟨by unfold rng;omega,⟨i+1,by omega,by omega,λj hj=>?_⟩,by dsimp only;omega⟩)⟩) (λhc=>?_)
  ·rw[decide_eq_false (λe=>hne (by rw[e]))] at h;exact h
  ·rcases Nat.lt_or_ge j i with h1 | h1
   ·exact hI j h1
   ·obtain rfl:j=i:=om
    exact he
  ·rw[decide_eq_true (vz hl (λj hj=>hI j om))] at h;exact h
theorem kh {a b:GRat} {Q:Bool->Prop} (la:a.Num.length<=1099511627776) (ld:a.Den.length<=1099511627776) (h:Q (decide (a=b))):dU a b Q:=by
 obtain⟨n,x,y⟩:=a
 obtain⟨n',x',y'⟩:=b
 refine c7 (λh1=>?_) (λh1=>?_)
 ·refine kS la (condT (λh2=>?_) (λh2=>?_))
  ·refine kS ld ?_
   dsimp only at h1 h2 ⊢
   subst h1 h2
   by_cases h3:y=y'
   ·subst h3;rw[decide_eq_true rfl] at h ⊢;exact h
   ·rw[decide_eq_false h3];rw[decide_eq_false (λe=>h3 (by injection e))] at h;exact h
  ·rw[decide_eq_false (λe=>h2 (by injection e))] at h;exact h
 ·rw[decide_eq_false (λe=>h1 (by injection e))] at h;exact h
theorem qc {a b:List GRat} {Q:Bool->Prop} (la:a.length<=1099511627776) (hs:∀i:Nat,i<a.length->(at' a (i:Int)).Num.length<=1099511627776/\(at' a (i:Int)).Den.length<=1099511627776)
  (h:Q (decide (a=b))):dT a b Q:=by
 refine fI (λhc=>?_) (λhc=>?_)
 ·rw[decide_eq_false (λe=>hc (by rw[e]))] at h;exact h
 ·have hl:a.length=b.length:=om
  refine⟨λx=>∃i:Nat,x=i/\i<=a.length/\∀j:Nat,j<i->at' a (j:Int)=at' b (j:Int),λx=>a.length-x.toNat,⟨0,rfl,by omega,λj hj=>absurd hj om⟩,?_⟩
  rintro _ ⟨i,rfl,hi,hI⟩
  refine condT (λhc=>⟨⟨by omega,hc⟩,⟨by omega,by omega⟩,_,kh (hs i om).1 (hs i om).2 rfl,ct (λhne=>?_) (λhe=>⟨by unfold rng;omega,⟨i+1,by omega,by omega,λj hj=>?_⟩,by dsimp only;omega⟩)⟩) (λhc=>?_)
  ·rw[Bool.not_eq_true',decide_eq_false_iff_not] at hne
   rw[decide_eq_false (λe=>hne (by rw[e]))] at h;exact h
  ·rw[Bool.not_eq_false',decide_eq_true_iff] at he
   rcases Nat.lt_or_ge j i with h1 | h1
   ·exact hI j h1
   ·obtain rfl:j=i:=om
    exact he
  ·rw[decide_eq_true (vz hl (λj hj=>hI j om))] at h;exact h
theorem gK {a:List GRat} {Q:Bool->Prop} (la:a.length<=1099511627776) (hs:∀i:Nat,i<a.length->(at' a (i:Int)).Num.length<=1099511627776/\(at' a (i:Int)).Den.length<=1099511627776)
  (h:Q true):dT a a Q:=qc la hs (by rw[decide_eq_true rfl];exact h)
def nF (e:Int):Option Int:=if e=0 then none else some e
end Go.Gg
namespace Go.Gg
def Rp (k:Nat) (a:GRat) (q:Rat):Prop:=Fr a/\bh a=q/\RB k q
def WrR (a:GRat):Prop:=Words a.Num/\Words a.Den
def WrL (l:List GRat):Prop:=∀i:Nat,i<l.length->WrR (at' l (i:Int))
abbrev cap:Nat:=35184372088000
theorem Rp.of {q:Rat} {k:Nat} (h:RB k q) (hk:k<=cap):Rp k (aH q) q:=⟨nL h hk,cw q,h⟩
theorem Rp.mono {a:GRat} {q:Rat} {k l:Nat} (h:Rp k a q) (hkl:k<=l):Rp l a q:=⟨h.1,h.2.1,h.2.2.mono hkl⟩
theorem Rp.self {a:GRat} {k:Nat} (h:Fr a) (hb:RB k (bh a)):Rp k a (bh a):=⟨h,rfl,hb⟩
theorem Rp.len {a:GRat} {q:Rat} {k:Nat} (h:Rp k a q):a.Num.length<=1099511627776/\a.Den.length<=1099511627776:=⟨Nat.le_trans h.1.2.2.1 om,Nat.le_trans h.1.2.2.2 om⟩
theorem Rp.zero {k:Nat} (hk:1<=k) (hk2:k<=cap):Rp k (⟨false,[],[]⟩:GRat) 0:=.of (ph k hk) hk2
theorem iA {n:Int} (hn:rng n):RB 64 (n:Rat):=t5 om (by unfold rng at hn;omega)
theorem mG {q:Rat}:oO q=0↔q=0:=by
 unfold oO
 constructor
 ·intro h
  split at h
  ·rename_i h0;exact Rat.num_eq_zero.1 h0
  ·split at h<;>omega
 ·rintro rfl;rfl
theorem wx {a b:GRat} {p q:Rat} {k l:Nat} {Q:GRat->Prop} (ha:Rp k a p) (hb:Rp l b q) (hk:k+l+1<=cap) (h:Rp (k+l+1) (aH (p-q)) (p-q)->Q (aH (p-q))):co a b Q:=by
 obtain⟨fa,rfl,ka⟩:=ha
 obtain⟨fb,rfl,kb⟩:=hb
 exact jf fa fb ka kb hk (h (.of (lN ka kb) hk))
theorem qn {a b:GRat} {p q:Rat} {k l:Nat} {K:GRat->Prop} (ha:Rp k a p) (hb:Rp l b q) (hk:k+l+1<=cap) (h:Rp (k+l+1) (aH (p-q)) (p-q)->K (aH (p-q))):eq (co a b) K:=
 ⟨_,wx ha hb hk (λ_=>rfl),h (.of (lN ha.2.2 hb.2.2) hk)⟩
theorem vt {a b:GRat} {p q:Rat} {k l:Nat} {Q:GRat->Prop} (ha:Rp k a p) (hb:Rp l b q) (hk:k+l+1<=cap) (h:Rp (k+l) (aH (p*q)) (p*q)->Q (aH (p*q))):cK a b Q:=by
 obtain⟨fa,rfl,ka⟩:=ha
 obtain⟨fb,rfl,kb⟩:=hb
 exact m8 fa fb ka kb hk (h (.of (lO ka kb) (by simp only[cap] at hk ⊢;omega)))
theorem tE {a b:GRat} {p q:Rat} {k l:Nat} {K:GRat->Prop} (ha:Rp k a p) (hb:Rp l b q) (hk:k+l+1<=cap) (h:Rp (k+l) (aH (p*q)) (p*q)->K (aH (p*q))):eq (cK a b) K:=
 ⟨_,vt ha hb hk (λ_=>rfl),h (.of (lO ha.2.2 hb.2.2) (by simp only[cap] at hk ⊢;omega))⟩
theorem wM {a b:GRat} {p q:Rat} {k l:Nat} {Q:GRat->Option Int->Prop} (ha:Rp k a p) (hb:Rp l b q) (hk:k+l+1<=cap) (h0:q=0->Q (aH 0) (some 8)) (h:q≠0->Rp (k+l) (aH (p / q)) (p / q)->Q (aH (p / q)) none):c9 a b Q:=by
 obtain⟨fa,rfl,ka⟩:=ha
 obtain⟨fb,rfl,kb⟩:=hb
 exact m9 fa fb ka kb hk h0 (λhn=>h hn (.of (nK ka kb) (by simp only[cap] at hk ⊢;omega)))
theorem tP {a b:GRat} {p q:Rat} {k l:Nat} {K:GRat->Option Int->Prop} (ha:Rp k a p) (hb:Rp l b q) (hk:k+l+1<=cap) (hq:q≠0) (h:Rp (k+l) (aH (p / q)) (p / q)->K (aH (p / q)) none):tQ (c9 a b) K:=
 ⟨_,_,wM ha hb hk (λe=>absurd e hq) (λ_ _=>⟨rfl,rfl⟩),h (.of (nK ha.2.2 hb.2.2) (by simp only[cap] at hk ⊢;omega))⟩
theorem sY {a:GRat} {p:Rat} {k:Nat} {Q:Int->Prop} (ha:Rp k a p) (h:Q (oO p)):cz a Q:=by
 obtain⟨fa,rfl,ka⟩:=ha
 exact iV fa h
theorem wN {a b:GRat} {p q:Rat} {k l:Nat} {Q:Int->Prop} (ha:Rp k a p) (hb:Rp l b q) (hk:k+l+1<=cap) (h:Q (oO (p-q))):dJ a b Q:=by
 obtain⟨fa,rfl,ka⟩:=ha
 obtain⟨fb,rfl,kb⟩:=hb
 exact m_ fa fb ka kb hk h
theorem wi {a b:GRat} {p q:Rat} {k l:Nat} {K:Int->Prop} (ha:Rp k a p) (hb:Rp l b q) (hk:k+l+1<=cap) (h:K (oO (p-q))):eq (dJ a b) K:=⟨_,wN ha hb hk rfl,h⟩
theorem tn {n:Int} {K:GRat->Prop} (hn:rng n) (h:Rp 64 (aH (n:Rat)) (n:Rat)->K (aH (n:Rat))):eq (dw n) K:=⟨_,nW hn rfl,h (.of (iA hn) (by decide))⟩
theorem xc {n:Int} {Q:GRat->Prop} (hn:rng n) (h:Rp 64 (aH (n:Rat)) (n:Rat)->Q (aH (n:Rat))):iG n Q:=qq hn (h (.of (iA hn) (by decide)))
def cc (a:GRat):Bool:=okR a && (decide (0<=bh a) && decide (bh a<=1))
theorem qB {q:Rat}:q<=1↔q.num<=(q.den:Int):=by
 rw[Rat.le_iff]
 simp
theorem mj {a:GRat} {Q:Bool->Prop} (fa:Fr a) (h:Q (cc a)):fO a Q:=by
 refine il fa (ct (λhc=>?_) (λhc=>?_))
 ·unfold cc at h
  rw[hc,Bool.true_and] at h
  have e:=lq hc
  generalize bh a=q at e h
  subst e
  by_cases hz:q.num=0
  ·have hq:q=0:=Rat.num_eq_zero.1 hz
   subst hq
   refine ct (λ_=>dx (a:=[]) (b:=[]) (λi=>by simp) (λi=>by simp) (by simp) (by simp) ?_) (λhh=>by cases hh)
   exact h
  ·have e2:aH q=⟨decide (q.num<0),lim q.num.natAbs,lim q.den⟩:=by unfold aH;rw[if_neg hz]
   rw[e2] at fa ⊢
   refine ct (λhn=>?_) (λhn=>?_)
   ·simp only[Bool.not_eq_true',decide_eq_false_iff_not] at hn
    refine dx fa.1 fa.2.1 (Nat.le_trans fa.2.2.1 om) (Nat.le_trans fa.2.2.2 om) ?_
    have e3:(decide (0<=q) && decide (q<=1))=decide (iR (val (lim q.num.natAbs)) (val (lim q.den))<=0):=by
     rw[aK,aK,decide_eq_true (Rat.num_nonneg.1 om),Bool.true_and]
     refine decide_eq_decide.2 ?_
     rw[qB]
     have:=@pa q.num.natAbs q.den
     omega
    rw[e3] at h
    exact h
   ·simp only[Bool.not_eq_false',decide_eq_true_eq] at hn
    rw[decide_eq_false (λhh=>by have:=Rat.num_nonneg.2 hh;omega),Bool.false_and] at h
    exact h
 ·unfold cc at h
  rw[hc,Bool.false_and] at h
  exact h
end Go.Gg
namespace Go.Gg
def oB (k:Int) (n:Nat):Bool:=if k=0 then decide (n=0) else if k=1 then decide (n=1) else decide (1<=n/\n<=16)
def l8 (f:GFormula) (i:Nat):Int:=
 if (at' f.Nodes (i:Int)).Kind<0\/5<(at' f.Nodes (i:Int)).Kind then 7
 else if oB (at' f.Nodes (i:Int)).Kind (at' f.Nodes (i:Int)).Args.length=false then 11
 else if ∃j<(at' f.Nodes (i:Int)).Args.length,at' (at' f.Nodes (i:Int)).Args (j:Int)<0\/f.Vars+i<=at' (at' f.Nodes (i:Int)).Args (j:Int) then 10
 else if (at' f.Nodes (i:Int)).Kind=0 then (if (at' f.Nodes (i:Int)).K≠0/\(at' f.Nodes (i:Int)).K≠1 then 3 else 0)
 else if (at' f.Nodes (i:Int)).Kind=4 then (if (at' f.Nodes (i:Int)).K<1\/((at' f.Nodes (i:Int)).Args.length:Int)<(at' f.Nodes (i:Int)).K then 3 else 0)
 else if (at' f.Nodes (i:Int)).K≠0 then 2 else 0
def mP (f:GFormula) (a:Int):Bool:=decide (0<=f.Vars/\0<=a/\(a<f.Vars\/a-f.Vars<f.Nodes.length))
def sq (f:GFormula):Int:=
 if f.Vars<0\/24<f.Vars then 3 else if 128<f.Nodes.length then 4
 else if gF (l8 f) f.Nodes.length≠0 then gF (l8 f) f.Nodes.length
 else if mP f f.Top=false then 10 else 0
theorem qf {k:Int} {n:Nat} (h:oB k n=true):n<=16:=by
 unfold oB at h
 split at h
 ·simp at h;omega
 ·split at h
  ·simp at h;omega
  ·simp at h;omega
theorem jH {k:Int} {n:Nat} {Q:Bool->Prop} (h:Q (oB k n)):eg k n Q:=by
 unfold oB at h
 refine c7 (λhc=>?_) (λhc=>c7 (λhc1=>?_) (λhc1=>condT (λh1=>?_) (λh1=>?_)))
 ·rw[if_pos hc] at h
  rw[show((n:Int) == 0)=decide (n=0) by rw[Bool.eq_iff_iff];simp];exact h
 ·rw[if_neg hc,if_pos hc1] at h
  rw[show((n:Int) == 1)=decide (n=1) by rw[Bool.eq_iff_iff];simp;omega];exact h
 ·rw[if_neg hc,if_neg hc1] at h
  rw[show decide ((n:Int)<=16)=decide (1<=n/\n<=16) from decide_eq_decide.2 om];exact h
 ·rw[if_neg hc,if_neg hc1,decide_eq_false om] at h;exact h
theorem jG {f:GFormula} {i:Nat} {Q:Option Int->Prop} (hi:i<f.Nodes.length) (hV:0<=f.Vars/\f.Vars<=24) (hn:f.Nodes.length<=128) (h:Q (nF (l8 f i))):ee f i Q:=by
 unfold l8 at h
 refine⟨⟨by omega,by omega⟩,λy=>y=decide ((at' f.Nodes (i:Int)).Kind<0\/5<(at' f.Nodes (i:Int)).Kind),?_,?_⟩
 ·exact condT (λhc=>(decide_eq_true (Or.inl hc)).symm) (λhc=>decide_eq_decide.2 ⟨Or.inr,λhh=>hh.resolve_left hc⟩)
 rintro _ rfl
 refine condT (λhc=>?_) (λhc=>?_)
 ·rw[if_pos hc] at h;exact h
 rw[if_neg hc] at h
 refine jH (ct (λhb=>?_) (λhb=>?_))
 ·rw[if_pos (by simpa using hb)] at h;exact h
 simp only[Bool.not_eq_false'] at hb
 rw[if_neg (by rw[hb];simp)] at h
 have hl:=qf hb
 refine ku (λj=>at' (at' f.Nodes (i:Int)).Args (j:Int)<0\/f.Vars+i<=at' (at' f.Nodes (i:Int)).Args (j:Int)) om (λj next hj hI hnx=>?_) (λhall=>?_)
 ·refine⟨⟨by omega,by omega⟩,λy=>y=decide (at' (at' f.Nodes (i:Int)).Args (j:Int)<0\/f.Vars+i<=at' (at' f.Nodes (i:Int)).Args (j:Int)),?_,?_⟩
  ·exact condT (λhc2=>(decide_eq_true (Or.inl hc2)).symm) (λhc2=>⟨by unfold rng;omega,decide_eq_decide.2 ⟨Or.inr,λhh=>hh.resolve_left hc2⟩⟩)
  ·rintro _ rfl
   refine condT (λhb2=>?_) (λhb2=>hnx hb2)
   rw[if_pos ⟨j,hj,hb2⟩] at h;exact h
 rw[if_neg (by rintro⟨j,hj,hb2⟩;exact hall j hj hb2)] at h
 refine c7 (λh0=>?_) (λh0=>?_)
 ·rw[if_pos h0] at h
  refine⟨λy=>y=decide ((at' f.Nodes (i:Int)).K≠0/\(at' f.Nodes (i:Int)).K≠1),?_,?_⟩
  ·refine fI (λhk=>?_) (λhk=>?_)
   ·show((at' f.Nodes (i:Int)).K != 1)=_
    rw[Bool.eq_iff_iff];simp[hk]
   ·rw[decide_eq_false (λhh=>hh.1 hk)]
  ·rintro _ rfl
   refine condT (λhk=>?_) (λhk=>?_)
   ·rw[if_pos hk] at h;exact h
   ·rw[if_neg hk] at h;exact h
 rw[if_neg h0] at h
 refine c7 (λh4=>?_) (λh4=>?_)
 ·rw[if_pos h4] at h
  refine⟨λy=>y=decide ((at' f.Nodes (i:Int)).K<1\/((at' f.Nodes (i:Int)).Args.length:Int)<(at' f.Nodes (i:Int)).K),?_,?_⟩
  ·exact condT (λhk=>(decide_eq_true (Or.inl hk)).symm) (λhk=>decide_eq_decide.2 ⟨Or.inr,λhh=>hh.resolve_left hk⟩)
  ·rintro _ rfl
   refine condT (λhk=>?_) (λhk=>?_)
   ·rw[if_pos hk] at h;exact h
   ·rw[if_neg hk] at h;exact h
 rw[if_neg h4] at h
 refine fI (λhk=>?_) (λhk=>?_)
 ·rw[if_pos hk] at h;exact h
 ·rw[if_neg (λhh=>hh hk)] at h;exact h
theorem mB {f:GFormula} {a:Int} {Q:Bool->Prop} (ha:rng a) (h:Q (mP f a)):fS f a Q:=by
 unfold mP at h
 unfold rng at ha
 refine condT (λh1=>condT (λh2=>condT (λh3=>?_) (λh3=>⟨by unfold rng;omega,?_⟩)) (λh2=>?_)) (λh1=>?_)
 ·rw[decide_eq_true ⟨h1,h2,Or.inl h3⟩] at h;exact h
 ·rw[show decide (a-f.Vars<(f.Nodes.length:Int))=decide (0<=f.Vars/\0<=a/\(a<f.Vars\/a-f.Vars<f.Nodes.length)) from decide_eq_decide.2 om];exact h
 ·rw[decide_eq_false (λhh=>h2 hh.2.1)] at h;exact h
 ·rw[decide_eq_false (λhh=>h1 hh.1)] at h;exact h
theorem pZ {e:Int}:(nF e).isSome=decide (e≠0):=by
 unfold nF
 by_cases h:e=0
 ·rw[if_pos h,decide_eq_false (λhh=>hh h)];rfl
 ·rw[if_neg h,decide_eq_true h];rfl
theorem mC {f:GFormula} {Q:Option Int->Prop} (ht:rng f.Top) (h:Q (nF (sq f))):fT f Q:=by
 unfold sq at h
 refine⟨λy=>y=decide (f.Vars<0\/24<f.Vars),?_,?_⟩
 ·exact condT (λhc=>(decide_eq_true (Or.inl hc)).symm) (λhc=>decide_eq_decide.2 ⟨Or.inr,λhh=>hh.resolve_left hc⟩)
 rintro _ rfl
 refine condT (λhc=>?_) (λhc=>?_)
 ·rw[if_pos hc] at h;exact h
 rw[if_neg hc] at h
 refine condT (λhc2=>?_) (λhc2=>?_)
 ·rw[if_pos om] at h;exact h
 rw[if_neg om] at h
 refine ku (λi=>l8 f i≠0) om (λi next hi hI hnx=>?_) (λhall=>?_)
 ·refine jG hi om om ?_
  rw[pZ]
  refine condT (λhe=>?_) (λhe=>hnx he)
  rw[gE (λj hj=>Decidable.not_not.1 (hI j hj)) he _ hi,if_pos he] at h
  exact h
 ·rw[if_neg (λhh=>hh (cr.2 λj hj=>Decidable.not_not.1 (hall j hj)))] at h
  refine mB ht (ct (λhb=>?_) (λhb=>?_))
  ·rw[if_pos (by simpa using hb)] at h;exact h
  ·rw[if_neg (by simpa using hb)] at h;exact h
structure FG (f:GFormula):Prop where
 v0:0<=f.Vars
 v24:f.Vars<=24
 n128:f.Nodes.length<=128
 node:∀i,i<f.Nodes.length->l8 f i=0
 top0:0<=f.Top
 top:f.Top<f.Vars+f.Nodes.length
theorem tU {f:GFormula}:sq f=0↔FG f:=by
 unfold sq
 constructor
 ·intro h
  split at h
  ·cases h
  split at h
  ·cases h
  split at h
  ·rename_i h3;exact absurd h h3
  split at h
  ·cases h
  rename_i h1 h2 h3 h4
  rw[Decidable.not_not] at h3
  have h5:=cr.1 h3
  simp only[mP,Bool.not_eq_false,decide_eq_true_eq] at h4
  exact⟨by omega,by omega,by omega,h5,by omega,by omega⟩
 ·intro h
  rw[if_neg (by have:=h.v0;have:=h.v24;omega),if_neg (by have:=h.n128;omega),if_neg (λhh=>hh (cr.2 h.node)),if_neg]
  have:=h.v0;have:=h.top0;have:=h.top
  simp only[mP,Bool.not_eq_false,decide_eq_true_eq]
  omega
structure NG (f:GFormula) (i:Nat):Prop where
 k0:0<=(at' f.Nodes (i:Int)).Kind
 k5:(at' f.Nodes (i:Int)).Kind<=5
 len:(at' f.Nodes (i:Int)).Args.length<=16
 arg:∀j:Nat,j<(at' f.Nodes (i:Int)).Args.length->0<=at' (at' f.Nodes (i:Int)).Args (j:Int)/\at' (at' f.Nodes (i:Int)).Args (j:Int)<f.Vars+i
 args:oB (at' f.Nodes (i:Int)).Kind (at' f.Nodes (i:Int)).Args.length=true
theorem nm {f:GFormula} {i:Nat} (h:l8 f i=0):NG f i:=by
 unfold l8 at h
 split at h
 ·cases h
 split at h
 ·cases h
 split at h
 ·cases h
 rename_i h1 h2 h3
 refine⟨by omega,by omega,qf (by simpa using h2),λj hj=>?_,by simpa using h2⟩
 rw[not_exists] at h3
 have:=h3 j
 simp only[hj,true_and,not_or] at this
 omega
end Go.Gg
namespace Go.Gg
theorem qP {y:Int} (h0:0<=y) (h1:y<4294967296):bits .and .i64 y 1=y % 2:=by
 obtain⟨m,rfl⟩:=Int.eq_ofNat_of_zero_le h0
 show IntKind.i64.wrap (((BitVec.ofInt 64 (m:Int)) &&& (BitVec.ofInt 64 1)).toNat:Int)=_
 rw[BitVec.toNat_and,BitVec.toNat_ofInt,BitVec.toNat_ofInt]
 have e1:((m:Int) % ((2^64:Nat):Int)).toNat=m:=om
 have e2:((1:Int) % ((2^64:Nat):Int)).toNat=1:=om
 rw[e1,e2,Nat.and_one_is_mod]
 have e3:m % 2=0\/m % 2=1:=om
 have e4:(m:Int) % 2=((m % 2:Nat):Int):=om
 rw[e4]
 rcases e3 with e | e<;>rw[e]<;>rfl
def inS (s i:Nat):Bool:=decide (s / 2^i % 2=1)
theorem wm {s k:Nat} (hx:s<4294967296):(bits .and .i64 ((s:Int) / 2^(Int.toNat (k:Int))) 1 == 1)=inS s k:=by
 have e:((s:Int) / 2^(Int.toNat (k:Int)))=((s / 2^k:Nat):Int):=by rw[Int.toNat_natCast];simp
 have:=Nat.div_le_self s (2^k)
 unfold inS
 rw[e]
 generalize s / 2^k=z at this
 rw[qP om om,Bool.eq_iff_iff]
 simp only[beq_iff_eq,decide_eq_true_eq]
 omega
theorem md {α:Type} [Inhabited α] {l m:List α} {i:Int} (h0:0<=i) (h:i<l.length):at' (l++m) i=at' l i:=by
 obtain⟨k,rfl⟩:=Int.eq_ofNat_of_zero_le h0
 have:k<l.length:=om
 simp[at',List.getD_eq_getElem?_getD,List.getElem?_append,this]
theorem qO {α:Type} [Inhabited α] {l:List α} {x:α}:at' (l++[x]) (l.length:Int)=x:=by
 simp[at',List.getD_eq_getElem?_getD]
end Go.Gg
namespace Go.Gg
theorem wS:(2:Nat)^62=4611686018427387904:=rfl
theorem uM {s i:Nat}:inS s i=s.testBit i:=by rw[inS,Nat.testBit_eq_decide_div_mod_eq]
theorem wF {n:Nat} (h:n<62):2^n<2^62:=Nat.pow_lt_pow_right om h
theorem vL {n:Nat} (h:n<62):((0:Int)<=(n:Int)/\(n:Int)<=64)/\rng (1*2^(Int.toNat (n:Int))):=by
 refine⟨by omega,?_⟩
 have e:(1*2^(Int.toNat (n:Int)):Int)=((2^n:Nat):Int):=by simp
 have h1:=wF h
 rw[wS] at h1
 rw[e]
 generalize 2^n=z at h1 ⊢
 unfold rng;omega
end Go.Gg
namespace Go.Gg
theorem uS {α:Type} [Inhabited α] {f:Nat->α} {n i:Nat} (h:i<n):at' ((List.range n).map f) (i:Int)=f i:=by
 simp[at',List.getD_eq_getElem?_getD,h]
def dA (l:List GRat):Bool:=decide (∀i,i<l.length->cc (at' l (i:Int))=true)
theorem j5 {p:GRat}:dA [p]=cc p:=by
 unfold dA
 cases h:cc p with
 | true=>refine decide_eq_true λi hi=>?_;match i with | 0=>exact h | i+1=>exact absurd hi (by simp)
 | false=>refine decide_eq_false λhh=>?_;have:cc p=true:=hh 0 (by simp);rw[h] at this;cases this
theorem nh {p q:GRat}:dA [p,q]=(cc p && cc q):=by
 unfold dA
 cases h:cc p && cc q with
 | true=>
  rw[Bool.and_eq_true] at h
  refine decide_eq_true λi hi=>?_
  match i with
  | 0=>exact h.1
  | 1=>exact h.2
  | i+2=>exact absurd hi (by simp)
 | false=>
  refine decide_eq_false λhh=>?_
  have h1:cc p=true:=hh 0 (by simp)
  have h2:cc q=true:=hh 1 (by simp)
  rw[h1,h2] at h;cases h
theorem pJ {a:GRat} (h:cc a=true):a=aH (bh a)/\0<=bh a/\bh a<=1:=by
 unfold cc at h
 simp only[Bool.and_eq_true,decide_eq_true_eq] at h
 exact⟨lq h.1,h.2.1,h.2.2⟩
theorem eE {q:Rat}:cc (aH q)=(decide (0<=q) && decide (q<=1)):=by rw[cc,ou,cw,Bool.true_and]
theorem lk {l:List GRat} (h:dA l=true) {i:Nat} (hi:i<l.length):cc (at' l (i:Int))=true:=of_decide_eq_true h i hi
theorem dR {l:List GRat} {Q:Bool->Prop} (hl:l.length<=1099511627776) (hf:∀i:Nat,i<l.length->Fr (at' l (i:Int))) (h:Q (dA l)):cO l Q:=by
 show bd l _
 refine ku (λi=>cc (at' l (i:Int))=false) om (λi next hi hI hnx=>⟨⟨by omega,by omega⟩,mj (hf i hi) (ct (λhb=>?_) (λhb=>hnx (by simpa using hb)))⟩) (λhall=>?_)
 ·have:dA l=false:=decide_eq_false λhh=>by have:=hh i hi;rw[this] at hb;cases hb
  rw[this] at h
  show Q (!decide (0<=(i:Int)))
  rw[decide_eq_true om];exact h
 ·have:dA l=true:=decide_eq_true λi hi=>by simpa using hall i hi
  rw[this] at h;exact h
def chz (n:Int):Nat->Int
 | 0=>1
 | x+1=>Int.tdiv (chz n x*(n-x)) (x+1)
theorem lH:∀n:Nat,n<4->∀x:Nat,x<4->(-1000<chz n x/\chz n x<1000)/\(-1000<chz n x*(n-x)/\chz n x*(n-x)<1000)/\(x<=n->0<chz n x):=by decide
theorem tT:∀n:Nat,n<4->∀x:Nat,x<4->(-1000<chz n (x+1)/\chz n (x+1)<1000):=by decide
theorem qb {n k:Nat} (hn:n<4) (hk:k<4) {Q:Int->Prop} (h:Q (chz n k)) :
  bk (σ:=Int×Int) (1,0) λ⟨out,x⟩ next1=>
  ah (decide (x<(k:Int)))
   (rng ((n:Int)-x)/\
   rng (out*((n:Int)-x))/\
   rng (x+1)/\
   ((x+1)≠0/\rng (Int.tdiv (out*((n:Int)-x)) (x+1)))/\
   rng (x+1)/\
   next1 ((Int.tdiv (out*((n:Int)-x)) (x+1)),(x+1)))
   (Q out):=by
 refine⟨λy=>∃x:Nat,x<=k/\y=(chz n x,(x:Int)),λy=>k-y.2.toNat,⟨0,by omega,rfl⟩,?_⟩
 rintro _ ⟨x,hx,rfl⟩
 refine condT (λhc=>?_) (λhc=>?_)
 ·have h1:=lH n hn x om
  have h2:=tT n hn x om
  exact⟨by unfold rng;omega,by unfold rng;omega,by unfold rng;omega,⟨by omega,by unfold rng;rw[show Int.tdiv (chz n x*((n:Int)-x)) (x+1)=chz n (x+1) from rfl];omega⟩,by unfold rng;omega,⟨x+1,by omega,rfl⟩,by dsimp only;omega⟩
 ·obtain rfl:x=k:=om
  exact h
theorem mE {n k:Nat} (hn:n<4) (hk:k<4) {Q:Int->Prop} (h:Q (chz n k)):fU n k Q:=qb hn hk h
def lZ (p:GRat) (f:List GRat):Nat->Rat
 | 0=>bh p
 | k+1=>lZ p f k*bh (at' f (k:Int))
def qt (p:GRat) (f:List GRat) (k:Nat):Rat:=if k<f.length then lZ p f k*(1-bh (at' f (k:Int))) else lZ p f k
def rO (p:GRat) (f:List GRat) (k:Nat):Rat:=qt p f k / ((chz (f.length:Nat) k:Int):Rat)
def eV (p:GRat) (f:List GRat):List GRat×Int:=
 if cc p=false\/dA f=false then ([],3) else if f.length<1\/3<f.length then ([],11)
 else ((List.range (f.length+1)).map (λk=>aH (rO p f k)),0)
def Sh (a:GRat):Prop:=Rp 1281 a (bh a)
def Shs (l:List GRat):Prop:=l.length<=60/\∀i:Nat,i<l.length->Sh (at' l (i:Int))
theorem mH {p:GRat} {f:List GRat} (hp:Sh p) (hf:∀i:Nat,i<f.length->Sh (at' f (i:Int))):∀k,k<=f.length->RB (1281*(k+1)) (lZ p f k)
 | 0,_=>hp.2.2
 | k+1,h=>(lO (mH hp hf k om) (hf k om).2.2).mono om
theorem tg {p:GRat} {f:List GRat} (hp:Sh p) (hf:∀i:Nat,i<f.length->Sh (at' f (i:Int))) {k:Nat} (h:k<=f.length):RB (1281*(k+1)+1346) (qt p f k):=by
 unfold qt
 split
 ·rename_i hk
  exact(lO (mH hp hf k h) (lN (iA (n:=1) (by unfold rng;omega)) (hf k hk).2.2)).mono om
 ·exact(mH hp hf k h).mono om
theorem ry {n k:Nat} (hn:n<4) (hk:k<4):rng (chz n k):=by
 have:=(lH n hn k hk).1
 unfold rng;omega
theorem vT {p:GRat} {f:List GRat} (hp:Sh p) (hf:∀i:Nat,i<f.length->Sh (at' f (i:Int))) {k:Nat} (h:k<=f.length) (h3:f.length<=3):RB (1281*(k+1)+1410) (rO p f k):=
 (nK (tg hp hf h) (iA (ry om om))).mono om
theorem wj {n k:Nat} (hn:n<4) (hk:k<=n):((chz n k:Int):Rat)≠0:=by
 have:=(lH n hn k om).2.2 hk
 intro e
 have h2:((chz n k:Int):Rat)=((0:Int):Rat):=e
 rw[Rat.intCast_inj] at h2
 omega
theorem oy {p:GRat} {f:List GRat} (hp:Sh p) (hf:∀i:Nat,i<f.length->Sh (at' f (i:Int))):∀i:Nat,i<(eV p f).1.length->Rp 10000 (at' (eV p f).1 (i:Int)) (rO p f i):=by
 unfold eV
 intro i hi
 split at hi
 ·simp at hi
 ·split at hi
  ·simp at hi
  ·rename_i h1 h2
   rw[if_neg h1,if_neg h2]
   simp only[List.length_map,List.length_range] at hi
   show Rp 10000 (at' ((List.range (f.length+1)).map _) (i:Int)) _
   rw[uS hi]
   exact .of ((vT hp hf om om).mono om) (by decide)
end Go.Gg
namespace Go.Gg
theorem rB {p q:GRat} (hp:Sh p) (hq:Sh q):∀i:Nat,i < [p,q].length->Sh (at' [p,q] (i:Int)):=λi hi=>by
 match i with
 | 0=>exact hp
 | 1=>exact hq
 | i+2=>exact absurd hi (by simp)
set_option maxHeartbeats 1000000 in
theorem jr {p:GRat} {f:List GRat} {Q:List GRat->Option Int->Prop} (hp:Sh p) (hl:f.length<=60) (hf:∀i:Nat,i<f.length->Sh (at' f (i:Int))) (h:Q (eV p f).1 (nF (eV p f).2)):eW p f Q:=by
 refine⟨λy=>y=decide (cc p=false\/dA f=false),?_,?_⟩
 ·refine dR (by simp) (λi hi=>?_) (ct (λhc=>?_) (λhc=>dR om (λi hi=>(hf i hi).1) ?_))
  ·match i with
   | 0=>exact hp.1
   | i+1=>exact absurd hi (by simp)
  ·rw[j5] at hc
   rw[decide_eq_true (Or.inl (by simpa using hc))]
  ·rw[j5] at hc
   simp only[Bool.not_eq_false'] at hc
   rw[hc]
   cases dA f<;>rfl
 ·rintro _ rfl
  unfold eV at h
  refine condT (λhc=>?_) (λhc=>?_)
  ·rw[if_pos hc] at h;exact h
  rw[if_neg hc] at h
  refine⟨λy=>y=decide (f.length<1\/3<f.length),?_,?_⟩
  ·refine condT (λh1=>?_) (λh1=>?_)
   ·rw[decide_eq_true (Or.inl om)]
   ·exact decide_eq_decide.2 om
  ·rintro _ rfl
   refine condT (λh1=>?_) (λh1=>?_)
   ·rw[if_pos h1] at h;exact h
   rw[if_neg h1] at h
   rw[not_or] at hc
   have hpo:=pJ (a:=p) (by simpa using hc.1)
   refine⟨by unfold rng;omega,?_⟩
   refine⟨λy=>∃k:Nat,k<=f.length+1/\y=((k:Int)+1,aH (lZ p f (min k f.length)),(List.range k).map (λk=>aH (rO p f k))),λy=>f.length+2-y.1.toNat,⟨0,by omega,?_⟩,?_⟩
   ·rw[Nat.zero_min,show aH (lZ p f 0)=p from hpo.1.symm];rfl
   rintro _ ⟨k,hk,rfl⟩
   refine condT (λh2=>?_) (λh2=>?_)
   ·have hk2:k<=f.length:=om
    rw[Nat.min_eq_left hk2]
    have hr:=Rp.of (mH hp hf k hk2) (show 1281*(k+1)<=cap by simp only[cap];omega)
    have hown:=Rp.of (tg hp hf hk2) (show 1281*(k+1)+1346<=cap by simp only[cap];omega)
    have e1:((k:Int)+1-1)=(k:Int):=om
    have e2:((f.length:Int)+1-1)=((f.length:Nat):Int):=om
    refine⟨λy=>y=(aH (lZ p f (min (k+1) f.length)),aH (qt p f k)),?_,?_⟩
    ·refine condT (λh3=>?_) (λh3=>?_)
     ·have h4:k<f.length:=om
      rw[e1]
      refine tn (by unfold rng;omega) λh0=>⟨by unfold rng;omega,⟨by omega,by omega⟩,qn h0 (hf k h4) (by decide) λh5=>tE hr h5 (by simp only[cap];omega) λh6=>⟨by unfold rng;omega,⟨by omega,by omega⟩,tE hr (hf k h4) (by simp only[cap];omega) λh7=>?_⟩⟩
      rw[Nat.min_eq_left (show k+1<=f.length by omega),qt,if_pos h4]
      rfl
     ·have h4:k=f.length:=om
      rw[Nat.min_eq_right (show f.length<=k+1 by omega),qt,if_neg om,h4]
    ·rintro _ rfl
     rw[e1,e2]
     refine⟨by unfold rng;omega,by unfold rng;omega,⟨_,mE om om rfl,tn (ry om om) λh5=>tP hown h5 (by simp only[cap];omega) (wj om om) λh6=>ct (λhh=>by cases hh) (λ_=>⟨by simp;omega,by unfold rng;omega,⟨k+1,by omega,?_⟩,by dsimp only;omega⟩)⟩⟩
     rw[List.range_succ,List.map_append]
     rfl
   ·obtain rfl:k=f.length+1:=om
    exact h
def fJ (p b:GRat):GRat×GRat×Int:=
 if cc p=false\/cc b=false then (aH 0,aH 0,3)
 else if 1-bh b*bh p=0 then (aH 0,aH (bh b*bh p),0)
 else (aH ((bh p-bh b*bh p) / (1-bh b*bh p)),aH (bh b*bh p),0)
theorem jV {p b:GRat} {Q:GRat->GRat->Option Int->Prop} (hp:Sh p) (hb:Sh b) (h:Q (fJ p b).1 (fJ p b).2.1 (nF (fJ p b).2.2)):fz p b Q:=by
 unfold fJ at h
 refine dR (by simp) (λi hi=>(rB hp hb i hi).1) ?_
 rw[nh]
 refine ct (λhc=>?_) (λhc=>?_)
 ·rw[if_pos (by cases h1:cc p<;>cases h2:cc b<;>simp_all)] at h;exact h
 rw[if_neg (by cases h1:cc p<;>cases h2:cc b<;>simp_all)] at h
 refine vt hb hp (by decide) λh1=>tn (by unfold rng;omega) λh2=>qn h2 h1 (by decide) λh3=>sY h3 (c7 (λhz=>?_) (λhz=>?_))
 ·rw[if_pos (show 1-bh b*bh p=0 from mG.1 hz)] at h;exact h
 ·have hz2:1-bh b*bh p≠0:=λe=>hz (mG.2 e)
  rw[if_neg hz2] at h
  exact qn hp h1 (by decide) λh4=>tP h4 h3 (by decide) hz2 λh5=>h
end Go.Gg
namespace Go.Gg
theorem n5 {x:GRat} {Q:Bool->Prop} (h:∀b,(b=true->x.Num.length<=40/\x.Den.length<=40)->Q b):hZ x Q:=
 condT (λh1=>h _ λh2=>⟨by omega,by have:=of_decide_eq_true h2;omega⟩) (λ_=>h _ λhh=>by cases hh)
theorem wT {a:GRat} (hw:WrR a) (h:a.Num.length<=40/\a.Den.length<=40):Sh a:=.self ⟨hw.1,hw.2,by omega,by omega⟩ ((u9 hw.1 hw.2 h.1 h.2).mono om)
theorem n4 {l:List GRat} {Q:Bool->Prop} (la:l.length<=9223372036854775807) (hw:WrL l) (h:∀b,(b=true->l.length<=60/\∀i:Nat,i<l.length->Sh (at' l (i:Int)))->Q b):hY l Q:=by
 refine ku (λi=>¬Sh (at' l (i:Int))) la (λi next hi hI hnx=>⟨⟨by omega,by omega⟩,n5 λb hb=>ct (λ_=>h _ λhh=>by cases hh) (λhb2=>hnx (λhn=>hn (wT (hw i hi) (hb (by simpa using hb2)))))⟩) (λhall=>h _ λhd=>⟨by have:=of_decide_eq_true hd;omega,λi hi=>Classical.not_not.1 (hall i hi)⟩)
theorem oZ {n d:Int} {Q:GRat->Prop} (hn:rng n) (hd:rng d) (h0:d≠0) (h:Q (aH ((n:Rat) / (d:Rat)))):bQ n d Q:=kx hn hd (λe=>absurd e h0) λ_=>h
theorem n7 {a:GRat} {k:Nat} {q:Rat} {Q:Bool->Prop} (ha:Rp k a q) (h:Q true):dU a a Q:=kh ha.len.1 ha.len.2 (by rw[decide_eq_true rfl];exact h)
theorem eY {n d:Int} (hn:n.natAbs<64) (hd:d.natAbs<64):Rp 12 (aH ((n:Rat) / (d:Rat))) ((n:Rat) / (d:Rat)):=by
 have h1:∀m:Int,m.natAbs<64->RB 6 (m:Rat):=λm hm=>t5 om hm
 exact .of ((nK (h1 n hn) (h1 d hd)).mono om) (by decide)
theorem iz {q:Rat} {k:Nat} (h:Rp k (aH q) q) (hk:k<=1281):Sh (aH q):=by
 unfold Sh
 rw[cw]
 exact h.mono hk
theorem qN:fJ (aH (((1:Int):Rat) / ((10:Int):Rat))) (aH (((1:Int):Rat) / ((2:Int):Rat)))=(aH (((1:Int):Rat) / ((19:Int):Rat)),aH (((1:Int):Rat) / ((20:Int):Rat)),0):=by
 unfold fJ
 rw[eE,eE,cw,cw]
 rw[if_neg (by decide +kernel),if_neg (by decide +kernel)]
 have e1:(((1:Int):Rat) / ((10:Int):Rat)-((1:Int):Rat) / ((2:Int):Rat)*(((1:Int):Rat) / ((10:Int):Rat))) / (1-((1:Int):Rat) / ((2:Int):Rat)*(((1:Int):Rat) / ((10:Int):Rat)))=((1:Int):Rat) / ((19:Int):Rat):=by decide +kernel
 have e2:((1:Int):Rat) / ((2:Int):Rat)*(((1:Int):Rat) / ((10:Int):Rat))=((1:Int):Rat) / ((20:Int):Rat):=by decide +kernel
 rw[e1,e2]
theorem qd:eV (aH ((1:Int):Rat)) [aH (((1:Int):Rat) / ((2:Int):Rat)),aH (((1:Int):Rat) / ((3:Int):Rat))]=([aH (((1:Int):Rat) / ((2:Int):Rat)),aH (((1:Int):Rat) / ((6:Int):Rat)),aH (((1:Int):Rat) / ((6:Int):Rat))],0):=by
 have h2:dA [aH (((1:Int):Rat) / ((2:Int):Rat)),aH (((1:Int):Rat) / ((3:Int):Rat))]=true:=by
  rw[nh,eE,eE];decide +kernel
 have h1:cc (aH ((1:Int):Rat))=true:=by rw[eE];decide +kernel
 unfold eV
 rw[if_neg (by rw[h1,h2];simp),if_neg (by simp)]
 have key:∀(p:GRat) (f:List GRat),f.length=2->bh p=1->bh (at' f ((0:Nat):Int))=((1:Int):Rat) / ((2:Int):Rat)->bh (at' f ((1:Nat):Int))=((1:Int):Rat) / ((3:Int):Rat)->
   (List.range (f.length+1)).map (λk=>aH (rO p f k))=[aH (((1:Int):Rat) / ((2:Int):Rat)),aH (((1:Int):Rat) / ((6:Int):Rat)),aH (((1:Int):Rat) / ((6:Int):Rat))]:=by
  intro p f hl hp h0 h1
  have e:List.range 3=[0,1,2]:=rfl
  rw[hl,e]
  simp only[List.map_cons,List.map_nil,rO,qt,hl,lZ,hp,h0,h1]
  have o0:(if 0<2 then 1*(1-((1:Int):Rat) / ((2:Int):Rat)) else 1) / ((chz ((2:Nat):Int) 0:Int):Rat)=((1:Int):Rat) / ((2:Int):Rat):=by decide +kernel
  have o1:(if 1<2 then 1*(((1:Int):Rat) / ((2:Int):Rat))*(1-((1:Int):Rat) / ((3:Int):Rat)) else 1*(((1:Int):Rat) / ((2:Int):Rat))) / ((chz ((2:Nat):Int) 1:Int):Rat)=((1:Int):Rat) / ((6:Int):Rat):=by decide +kernel
  have o2:(1*(((1:Int):Rat) / ((2:Int):Rat))*(((1:Int):Rat) / ((3:Int):Rat))) / ((chz ((2:Nat):Int) 2:Int):Rat)=((1:Int):Rat) / ((6:Int):Rat):=by decide +kernel
  rw[if_neg (show ¬2<2 by omega),o0,o1,o2]
 exact congrArg (λl=>(l,(0:Int))) (key _ _ rfl (cw _) (cw _) (cw _))
theorem jQ {Q:Bool->Prop} (h:Q true):fw Q:=by
 have r:∀n:Int,n.natAbs<64->rng n:=λn hn=>by unfold rng;omega
 have pt:∀ {n d:Int} {Q:GRat->Prop},n.natAbs<64->d.natAbs<64->d≠0->Q (aH ((n:Rat) / (d:Rat)))->bQ n d Q:=λh1 h2 h3 h4=>oZ (r _ h1) (r _ h2) h3 h4
 refine pt (by decide) (by decide) (by decide) (pt (by decide) (by decide) (by decide) ?_)
 refine jV (iz (eY (by decide) (by decide)) om) (iz (eY (by decide) (by decide)) om) ?_
 refine xc (by unfold rng;omega) λh1=>pt (by decide) (by decide) (by decide) (pt (by decide) (by decide) (by decide) ?_)
 refine jr (iz h1 om) (by simp) (rB (iz (eY (by decide) (by decide)) om) (iz (eY (by decide) (by decide)) om)) ?_
 rw[qN,qd]
 refine ct (λ_=>ct (λ_=>?_) (λhh=>by cases hh)) (λhh=>by cases hh)
 have same:∀ {n d:Int} {K:Bool->Prop},n.natAbs<64->d.natAbs<64->K true->eq (dU (aH ((n:Rat) / (d:Rat))) (aH ((n:Rat) / (d:Rat)))) K:=λh1 h2 h3=>⟨true,n7 (eY h1 h2) rfl,h3⟩
 refine⟨_,pt (by decide) (by decide) (by decide) rfl,same (by decide) (by decide) (ct (λ_=>?_) (λhh=>by cases hh))⟩
 refine⟨_,pt (by decide) (by decide) (by decide) rfl,same (by decide) (by decide) (ct (λ_=>?_) (λhh=>by cases hh))⟩
 refine⟨_,pt (by decide) (by decide) (by decide) rfl,_,pt (by decide) (by decide) (by decide) rfl,_,pt (by decide) (by decide) (by decide) rfl,true,gK (by simp) (λi hi=>?_) rfl,h⟩
 match i with
 | 0=>exact(eY (n:=1) (d:=2) (by decide) (by decide)).len
 | 1=>exact(eY (n:=1) (d:=6) (by decide) (by decide)).len
 | 2=>exact(eY (n:=1) (d:=6) (by decide) (by decide)).len
 | i+3=>exact absurd hi (by simp)
theorem pq {p b:GRat} (hp:Sh p) (hb:Sh b):(∃k q,Rp k (fJ p b).1 q)/\∃k q,Rp k (fJ p b).2.1 q:=by
 have h1:=lO hb.2.2 hp.2.2
 unfold fJ
 split
 ·exact⟨⟨1,0,.zero om (by decide)⟩,⟨1,0,.zero om (by decide)⟩⟩
 ·split
  ·exact⟨⟨1,0,.zero om (by decide)⟩,⟨_,_,.of h1 (by decide)⟩⟩
  ·exact⟨⟨_,_,.of (nK (lN hp.2.2 h1) (lN (iA (n:=1) (by unfold rng;omega)) h1)) (by decide)⟩,⟨_,_,.of h1 (by decide)⟩⟩
end Go.Gg
namespace Go.Gg
theorem eu {α:Type} [Inhabited α] {l:List α} {i:Nat} (h:i<l.length):l.take (i+1)=l.take i++[at' l (i:Int)]:=by
 rw[List.take_add_one,List.getElem?_eq_getElem h]
 simp[at',List.getD_eq_getElem?_getD,h]
theorem lA {v:Int} {s:List Int}:v∈s↔∃i:Nat,i<s.length/\v=at' s (i:Int):=by
 rw[List.mem_iff_getElem]
 constructor
 ·rintro⟨i,hi,rfl⟩
  exact⟨i,hi,by simp[at',List.getD_eq_getElem?_getD,hi]⟩
 ·rintro⟨i,hi,rfl⟩
  exact⟨i,hi,by simp[at',List.getD_eq_getElem?_getD,hi]⟩
theorem qK {v:Int} {s:List Int} {Q:Bool->Prop} (hl:s.length<=9223372036854775807) (h:Q (decide (v∈s))):bG v s Q:=by
 unfold bG cF
 refine ku (λi=>v=at' s (i:Int)) hl (λi next hi hI hnx=>⟨⟨by omega,by omega⟩,c7 (λhc=>?_) hnx⟩) (λhall=>?_)
 ·show Q (decide (0<=(i:Int)))
  rw[decide_eq_true (lA.2 ⟨i,hi,hc⟩)] at h
  rw[decide_eq_true om];exact h
 ·show Q false
  rw[decide_eq_false (λhm=>by obtain⟨i,hi,e⟩:=lA.1 hm;exact hall i hi e)] at h
  exact h
def mv (n:Nat) (ms g:List Int) (i:Nat):Int:=
 if at' g (i:Int)<0\/(n:Int)<=at' g (i:Int) then 10 else if at' g (i:Int)∈ms++g.take i then 6 else 0
def l9 (g:GCauseGroup):Int:=if g.Kind=1 then 4 else 24
def nB (g:GCauseGroup):Int:=if g.Kind=1 then (g.Members.length:Int)-1 else 1
def p6 (g:GCauseGroup) (p:List GRat) (ms:List Int):Int:=
 if g.Kind≠0/\g.Kind≠1 then 7
 else if g.Members.length<2\/l9 g<g.Members.length\/(g.Factors.length:Int)≠nB g then 11
 else if gF (mv p.length ms g.Members) g.Members.length≠0 then gF (mv p.length ms g.Members) g.Members.length
 else if dA g.Factors=false then 3
 else if ∃i<g.Members.length,bh (at' p (at' g.Members (i:Int)))≠bh (at' p (at' g.Members 0)) then 3 else 0
def ShG (g:GCauseGroup):Prop:=g.Members.length<=60/\Shs g.Factors
theorem rk {n:Nat} {ms g:List Int} {i:Nat} (h:mv n ms g i=0):0<=at' g (i:Int)/\at' g (i:Int)<n/\at' g (i:Int)∉ms++g.take i:=by
 unfold mv at h
 split at h
 ·cases h
 ·split at h
  ·cases h
  ·rename_i h1 h2
   exact⟨by omega,by omega,h2⟩
theorem qe {p:List GRat} (hp:Shs p) {i:Int} (h0:0<=i) (h1:i<p.length):Sh (at' p i):=by
 obtain⟨n,rfl⟩:=Int.eq_ofNat_of_zero_le h0
 exact hp.2 n om
theorem sub_zero {a b:Rat}:oO (a-b)=0↔a=b:=by
 rw[mG]
 exact⟨λh=>by rw[<-Rat.sub_add_cancel (a:=a) (b:=b),h,Rat.zero_add],λh=>by rw[h,Rat.sub_self]⟩
theorem jI {g:GCauseGroup} {p:List GRat} {ms:List Int} {Q:List Int->Option Int->Prop} (hg:ShG g) (hp:Shs p) (hm:ms.length<=1000000)
  (h:∀m,(p6 g p ms=0->m=ms++g.Members)->Q m (nF (p6 g p ms))):dp g p ms Q:=by
 obtain⟨hg1,hg2⟩:=hg
 unfold p6 at h
 refine⟨λy=>y=decide (g.Kind≠0/\g.Kind≠1),fI (λh0=>?_) (λh0=>?_),?_⟩
 ·show(g.Kind != 1)=_
  rw[Bool.eq_iff_iff]
  simp[h0]
 ·show false=_
  simp[h0]
 rintro _ rfl
 refine condT (λhc=>?_) (λhc=>?_)
 ·rw[if_pos hc] at h;exact h _ (λhh=>by cases hh)
 rw[if_neg hc] at h
 refine⟨λy=>y=(l9 g,nB g),c7 (λh0=>⟨by unfold rng;omega,by unfold l9 nB;rw[if_pos h0,if_pos h0]⟩) (λh0=>by unfold l9 nB;rw[if_neg h0,if_neg h0]),?_⟩
 rintro _ rfl
 refine⟨λy=>y=decide (g.Members.length<2\/l9 g<g.Members.length\/(g.Factors.length:Int)≠nB g),condT (λa=>(decide_eq_true (Or.inl om)).symm) (λa=>condT (λb=>(decide_eq_true (Or.inr (Or.inl b))).symm) (λb=>?_)),?_⟩
 ·show((g.Factors.length:Int) != nB g)=_
  rw[Bool.eq_iff_iff,bne_iff_ne,decide_eq_true_iff]
  exact⟨λc=>Or.inr (Or.inr c),λc=>by
   rcases c with c | c | c
   ·exact absurd om a
   ·exact absurd c b
   ·exact c⟩
 rintro _ rfl
 refine condT (λhc2=>?_) (λhc2=>?_)
 ·rw[if_pos hc2] at h;exact h _ (λhh=>by cases hh)
 rw[if_neg hc2] at h
 refine iN (n:=g.Members.length) (λi y=>y=((i:Int),ms++g.Members.take i)/\∀j,j<i->mv p.length ms g.Members j=0) (λy=>y.1) 0 (λi y hy=>by rw[hy.1,Int.add_zero]) ⟨by rw[List.take_zero,List.append_nil];rfl,λj hj=>absurd hj om⟩ ?_ ?_
 ·rintro i _ next hi ⟨rfl,hI⟩ hn
  refine condT (λhc3=>⟨⟨by omega,by omega⟩,λy=>y=decide (at' g.Members (i:Int)<0\/(p.length:Int)<=at' g.Members (i:Int)),condT (λa=>(decide_eq_true (Or.inl a)).symm) (λa=>decide_eq_decide.2 ⟨Or.inr,λhh=>hh.resolve_left a⟩),?_⟩) (λhc3=>absurd (show(i:Int)<(g.Members.length:Int) by omega) hc3)
  rintro _ rfl
  refine condT (λa=>?_) (λa=>?_)
  ·have e:mv p.length ms g.Members i=10:=if_pos a
   have e1:=gE hI (by rw[e];decide) _ hi
   rw[e1,e,if_pos (by decide)] at h
   exact h _ (λhh=>by cases hh)
  refine qK (by simp;omega) (condT (λb=>?_) (λb=>?_))
  ·have e:mv p.length ms g.Members i=6:=by unfold mv;rw[if_neg a,if_pos b]
   have e1:=gE hI (by rw[e];decide) _ hi
   rw[e1,e,if_pos (by decide)] at h
   exact h _ (λhh=>by cases hh)
  refine⟨by simp;omega,by unfold rng;omega,hn _ ⟨?_,λj hj=>?_⟩⟩
  ·rw[eu hi,List.append_assoc]
   rfl
  ·rcases Nat.lt_or_ge j i with h1 | h1
   ·exact hI j h1
   ·obtain rfl:j=i:=om
    unfold mv;rw[if_neg a,if_neg b]
 ·rintro _ next ⟨rfl,hI⟩
  refine condT (λhc3=>absurd (show(g.Members.length:Int)<(g.Members.length:Int) from hc3) om) (λ_=>?_)
  rw[if_neg (by rw[cr.2 hI];simp)] at h
  rw[List.take_length]
  refine dR (by have:=hg2.1;omega) (λi hi=>(hg2.2 i hi).1) (ct (λhb=>?_) (λhb=>?_))
  ·rw[if_pos (by simpa using hb)] at h;exact h _ (λhh=>by cases hh)
  rw[if_neg (by simpa using hb)] at h
  have hin:∀j,j<g.Members.length->0<=at' g.Members (j:Int)/\at' g.Members (j:Int)<p.length:=λj hj=>by have:=rk (hI j hj);exact⟨this.1,this.2.1⟩
  refine ku (λi=>bh (at' p (at' g.Members (i:Int)))≠bh (at' p (at' g.Members 0))) om (λi next hi hI2 hnx=>?_) (λhall=>?_)
  ·have h1:=hin i hi
   have h2:=hin 0 om
   refine⟨⟨by omega,by omega⟩,h1,⟨by omega,by omega⟩,h2,wi (qe hp h1.1 h1.2) (qe hp h2.1 h2.2) (by decide) (fI (λhne=>?_) (λhe=>?_))⟩
   ·rw[if_pos ⟨i,hi,λhh=>hne (sub_zero.2 hh)⟩] at h;exact h _ (λhh=>by cases hh)
   ·exact hnx (λhh=>hh (sub_zero.1 he))
  ·rw[if_neg (by rintro⟨i,hi,hb2⟩;exact hall i hi hb2)] at h
   exact h _ (λ_=>rfl)
end Go.Gg
namespace Go.Gg
theorem nE {e:Int} {A B:Prop} (h0:e≠0->A) (h1:e=0->B):ah (Option.isSome (nF e)) A B:=by
 by_cases h:e=0
 ·rw[h];exact ct (λhc=>by cases hc) (λ_=>h1 h)
 ·refine ct (λ_=>h0 h) (λhc=>?_)
  unfold nF at hc
  rw[if_neg h] at hc
  cases hc
def e7 (gs:List GCauseGroup) (k:Nat):List Int:=(gs.take k).flatMap (·.Members)
theorem iM {gs:List GCauseGroup} {k:Nat} (h:k<gs.length):e7 gs (k+1)=e7 gs k++(at' gs (k:Int)).Members:=by
 unfold e7
 rw[eu h,List.flatMap_append]
 simp
def t3 (gs:List GCauseGroup):Prop:=gs.length<=30/\∀i:Nat,i<gs.length->ShG (at' gs (i:Int))
theorem jA {gs:List GCauseGroup} (h:t3 gs):∀k,k<=gs.length->(e7 gs k).length<=60*k
 | 0,_=>by simp[e7]
 | k+1,hk=>by
  rw[iM om,List.length_append]
  have:=jA h k om
  have:=(h.2 k om).1
  omega
def cgE (gs:List GCauseGroup) (p:List GRat) (k:Nat):Int:=p6 (at' gs (k:Int)) p (e7 gs k)
def iw (f:GFormula) (p:List GRat) (gs:List GCauseGroup):Int:=
 if sq f≠0 then sq f else if (p.length:Int)≠f.Vars then 11 else if dA p=false then 3 else gF (cgE gs p) gs.length
theorem nG {f:GFormula} {p:List GRat} {gs:List GCauseGroup} {Q:Option Int->Prop} (ht:rng f.Top) (hp:Shs p) (hg:t3 gs) (h:Q (nF (iw f p gs))):gJ f p gs Q:=by
 unfold iw at h
 have g30:=hg.1
 refine mC ht (nE (λh0=>?_) (λh0=>?_))
 ·rw[if_pos h0] at h;exact h
 rw[if_neg (λhh=>hh h0)] at h
 refine fI (λa=>?_) (λa=>?_)
 ·rw[if_pos a] at h;exact h
 rw[if_neg (λhh=>hh a)] at h
 refine dR (by have:=hp.1;omega) (λi hi=>(hp.2 i hi).1) (ct (λb=>?_) (λb=>?_))
 ·rw[if_pos (by simpa using b)] at h;exact h
 rw[if_neg (by simpa using b)] at h
 refine iN (n:=gs.length) (λi y=>y=((i:Int),e7 gs i)/\∀j,j<i->cgE gs p j=0) (λy=>y.1) 0 (λi y hy=>by rw[hy.1,Int.add_zero]) ⟨rfl,λj hj=>absurd hj om⟩ ?_ ?_
 ·rintro i _ next hi ⟨rfl,hI⟩ hn
  refine condT (λhc=>⟨⟨by omega,by omega⟩,jI (hg.2 i hi) hp (by have:=jA hg i om;omega) (λm hm=>nE (λe=>?_) (λe=>?_))⟩) (λhc=>absurd (show(i:Int)<(gs.length:Int) by omega) hc)
  ·rw[gE hI e _ hi] at h;exact h
  ·refine⟨by unfold rng;omega,hn _ ⟨by rw[hm e,iM hi];rfl,λj hj=>?_⟩⟩
   rcases Nat.lt_or_ge j i with h1 | h1
   ·exact hI j h1
   ·obtain rfl:j=i:=om
    exact e
 ·rintro _ next ⟨rfl,hI⟩
  refine condT (λhc3=>absurd (show(gs.length:Int)<(gs.length:Int) from hc3) om) (λ_=>?_)
  rw[cr.2 hI] at h;exact h
theorem gI {x:GRat} {Q:GRat->Prop} (h1:x.Num.length<=1099511627776) (h2:x.Den.length<=1099511627776) (h:Q x):dS x Q:=by
 have cl:∀l:List Int,l.length<=1099511627776->bH l λy=>y=l:=λl hl b hb=>by
  refine ct (λh=>(hb h).symm) (λ_=>⟨by simp;omega,by simp⟩)
 exact⟨_,cl _ h1,_,cl _ h2,h⟩
structure GOK (g:GCauseGroup) (p:List GRat) (ms:List Int):Prop where
 kind:g.Kind=0\/g.Kind=1
 two:2<=g.Members.length
 most:(g.Members.length:Int)<=l9 g
 fac:(g.Factors.length:Int)=nB g
 mem:∀i,i<g.Members.length->0<=at' g.Members (i:Int)/\at' g.Members (i:Int)<p.length/\at' g.Members (i:Int)∉ms++g.Members.take i
 prob:dA g.Factors=true
theorem GOK.of {g:GCauseGroup} {p:List GRat} {ms:List Int} (h:p6 g p ms=0):GOK g p ms:=by
 unfold p6 at h
 split at h
 ·cases h
 rename_i a
 split at h
 ·cases h
 rename_i b
 split at h
 ·rename_i c;exact absurd h c
 rename_i c
 split at h
 ·cases h
 rename_i d
 clear h
 exact⟨by omega,by omega,by omega,by omega,λi hi=>rk (cr.1 (by simpa using c) i hi),by simpa using d⟩
def kf (s n:Nat):Nat:=((List.range n).filter (λi=>inS s i)).length
def eZ (ms:List Int) (s:Nat):List Int:=((List.range ms.length).filter (λi=>inS s i)).map (λi:Nat=>at' ms (i:Int))
def bD (g:GCauseGroup):List Nat:=if g.Kind=0 then [2^g.Members.length-1] else (List.range (2^g.Members.length)).filter (λs=>decide (1<kf s g.Members.length))
def nX (g:GCauseGroup) (p:GRat):GRat:=if g.Kind=0 then (fJ p (at' g.Factors 0)).1 else at' (eV p g.Factors).1 0
def mD (g:GCauseGroup) (p:GRat) (s:Nat):GRat:=if g.Kind=0 then (fJ p (at' g.Factors 0)).2.1 else at' (eV p g.Factors).1 ((kf s g.Members.length:Int)-1)
theorem sW {ms:List Int} {s:Nat}:(eZ ms s).length=kf s ms.length:=List.length_map ..
theorem o_ {s n:Nat}:kf s n<=n:=by
 unfold kf
 have:=List.length_filter_le (λi=>inS s i) (List.range n)
 rwa[List.length_range] at this
theorem tL {n i:Nat} (h:i<n):inS (2^n-1) i=true:=by
 rw[uM,Nat.testBit_two_pow_sub_one,decide_eq_true h]
theorem s8 {ms:List Int}:(List.range ms.length).map (λi:Nat=>at' ms (i:Int))=ms:=by
 refine List.ext_getElem (by simp) (λi h1 h2=>?_)
 simp[at',List.getD_eq_getElem?_getD,h2]
theorem rF {ms:List Int}:eZ ms (2^ms.length-1)=ms:=by
 unfold eZ
 rw[List.filter_eq_self.2 (λi hi=>tL (List.mem_range.1 hi)),s8]
theorem gR {p:Nat->Bool} {i:Nat}:(List.range (i+1)).filter p=(List.range i).filter p++(if p i then [i] else []):=by
 rw[List.range_succ,List.filter_append]
 cases h:p i<;>simp[h]
theorem uR {g:GCauseGroup} {p:List GRat} {q:GRat} {ms:List Int} (hg:GOK g p ms) (h0:g.Kind=0) (hq:cc q=true):(fJ q (at' g.Factors 0)).2.2=0:=by
 have l1:(g.Factors.length:Int)=1:=by have:=hg.fac;unfold nB at this;rwa[if_neg om] at this
 have hb:cc (at' g.Factors 0)=true:=lk hg.prob (i:=0) om
 unfold fJ
 rw[if_neg (by rw[hq,hb];simp)]
 split<;>rfl
theorem p7 {g:GCauseGroup} {p:List GRat} {q:GRat} {ms:List Int} (hg:GOK g p ms) (h0:g.Kind=1) (hq:cc q=true):(eV q g.Factors).2=0/\(eV q g.Factors).1.length=g.Members.length/\g.Members.length<=4:=by
 have l1:(g.Factors.length:Int)=(g.Members.length:Int)-1:=by have:=hg.fac;unfold nB at this;rwa[if_pos h0] at this
 have l2:(g.Members.length:Int)<=4:=by have:=hg.most;unfold l9 at this;rwa[if_pos h0] at this
 have l3:=hg.two
 unfold eV
 rw[if_neg (by rw[hq,hg.prob];simp),if_neg om]
 exact⟨rfl,by simp;omega,by omega⟩
theorem mF {g:GCauseGroup} {p:List GRat} {q:GRat} {ms:List Int} {Q:List Gcause->GRat->Option Int->Prop} (hs:ShG g) (hg:GOK g p ms) (hp:Sh q) (hq:cc q=true)
  (h:Q ((bD g).map (λs=>⟨mD g q s,eZ g.Members s⟩)) (nX g q) none):fV g q Q:=by
 obtain⟨hs1,hs2⟩:=hs
 refine c7 (λh0=>?_) (λh0=>?_)
 ·have l1:(g.Factors.length:Int)=1:=by have:=hg.fac;unfold nB at this;rwa[if_neg om] at this
  have be:=uR hg h0 hq
  unfold bD nX mD at h
  rw[if_pos h0,if_pos h0] at h
  simp only[List.map_cons,List.map_nil,if_pos h0,rF] at h
  refine⟨⟨by omega,by omega⟩,_,_,_,jV hp (qe hs2 om om) ⟨rfl,rfl,rfl⟩,?_⟩
  rw[be]
  exact h
 have h1:g.Kind=1:=hg.kind.resolve_left h0
 obtain⟨ge,gl,g4⟩:=p7 hg h1 hq
 refine jr hp (by have:=hs2.1;omega) hs2.2 (nE (λe=>absurd ge e) (λ_=>?_))
 have g2:=hg.two
 have pw:2^g.Members.length<=2^4:=Nat.pow_le_pow_right om g4
 have sh:=vL (n:=g.Members.length) om
 unfold bD nX at h
 rw[if_neg h0,if_neg h0] at h
 refine⟨sh,?_⟩
 rw[show(1*2^(Int.toNat (g.Members.length:Int)):Int)=((2^g.Members.length:Nat):Int) by simp]
 let F:Nat->Gcause:=λs=>⟨mD g q s,eZ g.Members s⟩
 have FL:∀i,(((List.range i).filter (λs=>decide (1<kf s g.Members.length))).map F).length<=i:=λi=>by
  rw[List.length_map]
  have:=List.length_filter_le (λs=>decide (1<kf s g.Members.length)) (List.range i)
  rwa[List.length_range] at this
 refine jm (n:=2^g.Members.length) (λi=>((i:Int),((List.range i).filter (λs=>decide (1<kf s g.Members.length))).map F)) (λy=>y.1) 0 (λi=>by simp) rfl (λi next hi hn=>?_) (λnext=>?_)
 ·refine condT (λ_=>?_) (λhc=>absurd (show(i:Int)<((2^g.Members.length:Nat):Int) by omega) hc)
  refine jm (n:=g.Members.length) (λj=>((j:Int),((List.range j).filter (λk=>inS i k)).map (λk:Nat=>at' g.Members (k:Int)))) (λy=>y.1) 0 (λj=>by simp) rfl (λj next2 hj hn2=>?_) (λnext2=>?_)
  ·refine condT (λ_=>⟨⟨by omega,by omega⟩,⟨by omega,by omega⟩,?_⟩) (λhc=>absurd (show(j:Int)<(g.Members.length:Int) by omega) hc)
   have ll:=List.length_filter_le (λk=>inS i k) (List.range j)
   rw[List.length_range] at ll
   rw[wm om]
   refine ct (λhb=>?_) (λhb=>?_)
   ·refine⟨by rw[List.length_append,List.length_map];simp;omega,by unfold rng;omega,?_⟩
    rw[gR,hb,if_pos rfl,List.map_append] at hn2
    exact hn2
   ·refine⟨by unfold rng;omega,?_⟩
    rw[gR,hb,if_neg (by simp),List.append_nil] at hn2
    exact hn2
  ·refine condT (λhc=>absurd (show(g.Members.length:Int)<(g.Members.length:Int) from hc) om) (λ_=>?_)
   have cl:((((List.range g.Members.length).filter (λk=>inS i k)).map (λk:Nat=>at' g.Members (k:Int))).length:Int)=(kf i g.Members.length:Nat):=by rw[List.length_map];rfl
   have c4:=o_ (s:=i) (n:=g.Members.length)
   have fl:=FL i
   have hn3:=hn
   rw[gR] at hn3
   rw[cl]
   refine condT (λhc=>?_) (λhc=>?_)
   ·rw[if_pos (by simpa using (show 1<kf i g.Members.length by omega)),List.map_append] at hn3
    have e:F i=⟨at' (eV q g.Factors).1 ((kf i g.Members.length:Int)-1),eZ g.Members i⟩:=by
     show(⟨mD g q i,eZ g.Members i⟩:Gcause)=_
     unfold mD
     rw[if_neg h0]
    refine⟨by unfold rng;omega,⟨by omega,by omega⟩,by rw[List.length_append];simp only[List.length_cons,List.length_nil];omega,by unfold rng;omega,?_⟩
    rw[List.map_cons,List.map_nil,e] at hn3
    exact hn3
   ·rw[if_neg (by simpa using (show ¬1<kf i g.Members.length by omega)),List.append_nil] at hn3
    exact⟨by unfold rng;omega,hn3⟩
 ·refine condT (λhc=>absurd (show((2^g.Members.length:Nat):Int)<((2^g.Members.length:Nat):Int) from hc) om) (λ_=>⟨⟨by omega,by omega⟩,h⟩)
end Go.Gg
namespace Go.Gg
theorem t1 {α:Type} {T:List (Int×List α)} {i j:Int} {l:List α} (hj:j≠i):bS (dv T i l) j=bS T j:=by
 by_cases h:bo T j<T.length
 ·have:=(o3 (l:=l) hj).2 h
  unfold bS
  rw[this.1,jx,if_neg this.2]
 ·rw[fq h,fq (λhh=>h ((o3 hj).1.1 hh))]
theorem rA {α β:Type} [Inhabited α] [Inhabited β] {g:α->β} {l:List α} {i:Nat} (h:i<l.length):at' (l.map g) (i:Int)=g (at' l (i:Int)):=by
 simp[at',List.getD_eq_getElem?_getD,h]
theorem nI {α:Type} [Inhabited α] {l:List α} {i j:Nat} (h:j<i):at' (l.take i) (j:Int)=at' l (j:Int):=by simp[at',List.getD_eq_getElem?_getD,h]
def gY (q:List GRat) (ms:List Int) (v:GRat):List GRat:=ms.foldl (λq i=>b6 q i v) q
theorem j3 {v:GRat}:∀ {ms:List Int} {q:List GRat},(gY q ms v).length=q.length
 | [],_=>rfl
 | _ :: ms,_=>(j3 (ms:=ms)).trans (kL ..)
theorem pC {q:List GRat} {ms:List Int} {v:GRat} {j:Nat} (h:j<ms.length):gY q (ms.take (j+1)) v=b6 (gY q (ms.take j) v) (at' ms (j:Int)) v:=by
 unfold gY
 rw[eu h,List.foldl_append]
 rfl
def dQ (g:GCauseGroup) (p:List GRat):GRat:=at' p (at' g.Members 0)
def j6 (g:GCauseGroup) (p:List GRat):List GRat:=(bD g).map (mD g (dQ g p))
def qG (p:List GRat) (gs:List GCauseGroup):Nat->List GRat
 | 0=>p
 | k+1=>gY (qG p gs k++j6 (at' gs (k:Int)) p) (at' gs (k:Int)).Members (nX (at' gs (k:Int)) (dQ (at' gs (k:Int)) p))
def kq (g:GCauseGroup) (q:Nat) (j:Nat) (i:Int):List Int:=((List.range j).filter (λn:Nat=>decide (i∈eZ g.Members (at' (bD g) (n:Int))))).map (λn:Nat=>((q+n:Nat):Int))
def stk (p:List GRat) (gs:List GCauseGroup):Nat->Int->List Int
 | 0,_=>[]
 | k+1,i=>stk p gs k i++kq (at' gs (k:Int)) (qG p gs k).length (bD (at' gs (k:Int))).length i
theorem rH {g:GCauseGroup} {q j:Nat} {i:Int}:kq g q (j+1) i=kq g q j i++if i∈eZ g.Members (at' (bD g) (j:Int)) then [((q+j:Nat):Int)] else []:=by
 unfold kq
 rw[gR,List.map_append]
 by_cases h:i∈eZ g.Members (at' (bD g) (j:Int))
 ·rw[if_pos (decide_eq_true h),if_pos h];rfl
 ·rw[if_neg (by simpa using h),if_neg h];rfl
theorem pr {g:GCauseGroup} {q j:Nat} {i:Int}:(kq g q j i).length<=j:=by
 unfold kq
 rw[List.length_map]
 have:=List.length_filter_le (λn:Nat=>decide (i∈eZ g.Members (at' (bD g) (n:Int)))) (List.range j)
 rwa[List.length_range] at this
structure Acc (f:GFormula) (p:List GRat) (gs:List GCauseGroup):Prop where
 fg:FG f
 len:(p.length:Int)=f.Vars
 prob:dA p=true
 grp:∀k,k<gs.length->GOK (at' gs (k:Int)) p (e7 gs k)
theorem Acc.of {f:GFormula} {p:List GRat} {gs:List GCauseGroup} (h:iw f p gs=0):Acc f p gs:=by
 unfold iw at h
 split at h
 ·rename_i a;exact absurd h a
 rename_i a
 split at h
 ·cases h
 rename_i b
 split at h
 ·cases h
 rename_i c
 exact⟨tU.1 (by simpa using a),by simpa using b,by simpa using c,λk hk=>GOK.of (cr.1 h k hk)⟩
theorem j7 {g:GCauseGroup} {p:List GRat} {ms:List Int} (hg:GOK g p ms):(bD g).length<=16:=by
 unfold bD
 split
 ·simp
 ·rename_i h0
  have h1:g.Kind=1:=hg.kind.resolve_left h0
  have l2:(g.Members.length:Int)<=4:=by have:=hg.most;unfold l9 at this;rwa[if_pos h1] at this
  have pw:2^g.Members.length<=2^4:=Nat.pow_le_pow_right om om
  have:=List.length_filter_le (λs=>decide (1<kf s g.Members.length)) (List.range (2^g.Members.length))
  rw[List.length_range] at this
  omega
theorem vS {p:List GRat} {gs:List GCauseGroup} {k:Nat}:(qG p gs (k+1)).length=(qG p gs k).length+(bD (at' gs (k:Int))).length:=by
 show(gY _ _ _).length=_
 rw[j3,List.length_append,j6,List.length_map]
theorem tf {f:GFormula} {p:List GRat} {gs:List GCauseGroup} (ha:Acc f p gs):∀k,k<=gs.length->p.length<=(qG p gs k).length/\(qG p gs k).length<=p.length+16*k
 | 0,_=>⟨Nat.le_refl _,Nat.le_refl _⟩
 | k+1,h=>by
  have:=tf ha k om
  have:=j7 (ha.grp k om)
  rw[vS]
  omega
theorem oM {f:GFormula} {p:List GRat} {gs:List GCauseGroup} (ha:Acc f p gs) (i:Int):∀k,k<=gs.length->(stk p gs k i).length<=16*k
 | 0,_=>Nat.le_refl _
 | k+1,h=>by
  have:=oM ha i k om
  have:=j7 (ha.grp k om)
  have h2:=pr (g:=at' gs (k:Int)) (q:=(qG p gs k).length) (j:=(bD (at' gs (k:Int))).length) (i:=i)
  show(stk p gs k i++kq _ _ _ _).length<=_
  rw[List.length_append]
  omega
theorem sj {f:GFormula} {p:List GRat} {gs:List GCauseGroup} (ha:Acc f p gs) (hp:Shs p) {k:Nat} (hk:k<gs.length):Sh (dQ (at' gs (k:Int)) p)/\cc (dQ (at' gs (k:Int)) p)=true:=by
 have hg:=ha.grp k hk
 have h1:=hg.mem 0 (by have:=hg.two;omega)
 refine⟨qe hp h1.1 h1.2.1,?_⟩
 obtain⟨n,hn⟩:=Int.eq_ofNat_of_zero_le h1.1
 have h2:=h1.2.1
 unfold dQ
 rw[show((0:Nat):Int)=0 from rfl] at hn h2
 rw[hn] at h2 ⊢
 exact lk ha.prob om
def wu (x:GRat):Prop:=x.Num.length<=1099511627776/\x.Den.length<=1099511627776
theorem uu {g:GCauseGroup} {p:List GRat} {q:GRat} {ms:List Int} (hs:ShG g) (hg:GOK g p ms) (hp:Sh q) (hq:cc q=true):wu (nX g q)/\∀s∈bD g,wu (mD g q s):=by
 have g2:=hg.two
 unfold nX mD bD
 by_cases h0:g.Kind=0
 ·have l1:(g.Factors.length:Int)=1:=by have:=hg.fac;unfold nB at this;rwa[if_neg om] at this
  obtain⟨⟨_,_,h1⟩,_,_,h2⟩:=pq hp (qe hs.2 (i:=0) om om)
  simp only[if_pos h0]
  exact⟨h1.len,λ_ _=>h2.len⟩
 ·have h1:g.Kind=1:=hg.kind.resolve_left h0
  obtain⟨ge,gl,g4⟩:=p7 hg h1 hq
  simp only[if_neg h0]
  refine⟨(oy hp hs.2.2 0 om).len,λs hm=>?_⟩
  have hc:=of_decide_eq_true (List.mem_filter.1 hm).2
  have c4:=o_ (s:=s) (n:=g.Members.length)
  have e:((kf s g.Members.length:Int)-1)=((kf s g.Members.length-1:Nat):Int):=om
  rw[e]
  exact(oy hp hs.2.2 _ om).len
theorem pd {α:Type} [Inhabited α] {l:List α} {j:Nat} (h:j<l.length):at' l (j:Int)∈l:=by
 have:at' l (j:Int)=l[j]:=by simp[at',List.getD_eq_getElem?_getD,h]
 rw[this]
 exact List.getElem_mem h
theorem u6 {p:List GRat} (hp:Shs p):∀x∈p,wu x:=λx hx=>by
 obtain⟨i,hi,rfl⟩:=List.mem_iff_getElem.1 hx
 have:=(hp.2 i hi).len
 have e:at' p (i:Int)=p[i]:=by simp[at',List.getD_eq_getElem?_getD,hi]
 rwa[e] at this
theorem GOK.ne {g:GCauseGroup} {p:List GRat} {ms:List Int} (hg:GOK g p ms) {a b:Nat} (h:a<b) (hb:b<g.Members.length):at' g.Members (a:Int)≠at' g.Members (b:Int):=λe=>
 (hg.mem b hb).2.2 (List.mem_append.2 (Or.inr (lA.2 ⟨a,by rw[List.length_take];omega,by rw[nI h,e]⟩)))
theorem ug {g:GCauseGroup} {p:List GRat} {ms:List Int} (hg:GOK g p ms) {s t:Nat} (ht:t<(eZ g.Members s).length):at' (eZ g.Members s) (t:Int)∉(eZ g.Members s).take t:=by
 have hp:(eZ g.Members s).Pairwise (·≠·):=by
  unfold eZ
  rw[List.pairwise_map]
  have h1:((List.range g.Members.length).filter (λi=>inS s i)).Pairwise (· < ·):=List.Pairwise.filter _ List.pairwise_lt_range
  refine List.Pairwise.imp_of_mem (λ{a b} ma mb hab=>?_) h1
  exact hg.ne hab (List.mem_range.1 (List.mem_filter.1 mb).1)
 intro hm
 obtain⟨j,hj,e⟩:=lA.1 hm
 rw[List.length_take] at hj
 rw[nI om] at e
 have h2:=List.pairwise_iff_getElem.1 hp j t om ht om
 refine h2 ?_
 have e1:∀k (h:k<(eZ g.Members s).length),at' (eZ g.Members s) (k:Int)=(eZ g.Members s)[k]:=λk h=>by simp[at',List.getD_eq_getElem?_getD,h]
 rw[<-e1 j,<-e1 t,e]
end Go.Gg
namespace Go.Gg
def lC (n i:Nat):List Int:=(List.range n).map λj=>if j<i then (j:Int) else 0
theorem ny {n i:Nat}:(lC n i).length=n:=by simp[lC]
theorem sf {v:Int}:ek v (0:Int)=lC v.toNat 0:=by
 refine List.ext_getElem (by simp[ek,lC]) (λi h1 h2=>?_)
 simp[ek,lC]
theorem tM {n i:Nat}:b6 (lC n i) (i:Int) (i:Int)=lC n (i+1):=by
 refine List.ext_getElem (by simp[b6,lC]) (λj h1 h2=>?_)
 simp only[b6,lC,Int.toNat_natCast,List.getElem_set,List.getElem_map,List.getElem_range]
 split
 ·rw[if_pos om];omega
 ·by_cases h:j<i
  ·rw[if_pos h,if_pos om]
  ·rw[if_neg h,if_neg om]
def toG (v q:Nat) (ms:List Int):Nat->List Int
 | 0=>lC v v
 | t+1=>b6 (toG v q ms t) (at' ms (t:Int)) ((q+t:Nat):Int)
theorem iE {v q:Nat} {ms:List Int}:∀ {t:Nat},(toG v q ms t).length=v
 | 0=>ny
 | _+1=>(kL ..).trans iE
def toF (v q:Nat) (ms:List Int) (m:Nat):List Int:=toG v q ms ms.length++(List.range m).map (λj:Nat=>((q+ms.length+j:Nat):Int))
theorem ub {v q m:Nat} {ms:List Int}:(toF v q ms m).length=v+m:=by simp[toF,iE]
theorem sK {v q m j:Nat} {ms:List Int} (h:j<m):at' (toF v q ms m) ((v+j:Nat):Int)=((q+ms.length+j:Nat):Int):=by
 unfold toF at'
 rw[Int.toNat_natCast,List.getD_eq_getElem?_getD,List.getElem?_append_right (by rw[iE];omega),iE,show v+j-v=j by omega]
 simp[h]
def jg (p:List GRat) (gs:List GCauseGroup) (i:Int):GNode:=⟨3,0,i :: stk p gs gs.length i⟩
def k_ (l:List Int) (nd:GNode):GNode:=⟨nd.Kind,nd.K,nd.Args.map (λa=>at' l a)⟩
def ru (f:GFormula) (p:List GRat) (gs:List GCauseGroup):List Int:=toF p.length (qG p gs gs.length).length (e7 gs gs.length) f.Nodes.length
def qI (f:GFormula) (p:List GRat) (gs:List GCauseGroup):GFormula:=
 ⟨((qG p gs gs.length).length:Int),(e7 gs gs.length).map (jg p gs)++f.Nodes.map (k_ (ru f p gs)),at' (ru f p gs) f.Top⟩
abbrev jq (f:GFormula) (p:List GRat) (gs:List GCauseGroup):Prop:=24<(qG p gs gs.length).length\/128<(e7 gs gs.length).length+f.Nodes.length
def p' (f:GFormula) (p:List GRat) (gs:List GCauseGroup):GFormula×List GRat×Int:=
 if iw f p gs≠0 then (⟨0,[],0⟩,[],iw f p gs) else if jq f p gs then (⟨0,[],0⟩,[],4) else (qI f p gs,qG p gs gs.length,0)
theorem mem_range {gs:List GCauseGroup} {f:GFormula} {p:List GRat} (ha:Acc f p gs):∀k,k<=gs.length->∀i∈e7 gs k,0<=i/\i<p.length
 | 0,_=>λi hi=>by simp[e7] at hi
 | k+1,h=>λi hi=>by
  rw[iM om] at hi
  rcases List.mem_append.1 hi with h1 | h1
  ·exact mem_range ha k om i h1
  ·obtain⟨a,ha2,rfl⟩:=lA.1 h1
   have:=(ha.grp k om).mem a ha2
   exact⟨this.1,this.2.1⟩
end Go.Gg
namespace Go.Gg
theorem di {n:Nat}:¬((n:Int)<(n:Int)):=om
theorem i0 {f:GFormula} {p:List GRat} {gs:List GCauseGroup} {Q:GFormula->List GRat->Option Int->Prop} (ht:rng f.Top) (hp:Shs p) (hs:t3 gs)
  (h:Q (p' f p gs).1 (p' f p gs).2.1 (nF (p' f p gs).2.2)):eA f p gs Q:=by
 unfold p' at h
 refine nG ht hp hs (nE (λe=>?_) (λe=>?_))
 ·rw[if_pos e] at h;exact h
 have ha:=Acc.of e
 rw[if_neg (λhh=>hh e)] at h
 have v0:=ha.fg.v0
 have v24:=ha.fg.v24
 have n128:=ha.fg.n128
 have pl:=ha.len
 have g30:=hs.1
 have p60:=hp.1
 refine jm (n:=p.length) (λi=>((i:Int),p.take i)) (λy=>y.1) 0 (λi=>by simp) (by simp) (λi next hi hn=>?_) (λnext=>?_)
 ·have lr:=u6 hp _ (pd hi)
  refine condT (λ_=>⟨⟨by omega,by omega⟩,gI lr.1 lr.2 ⟨?_,by unfold rng;omega,?_⟩⟩) (λhc=>absurd (show(i:Int)<(p.length:Int) by omega) hc)
  ·rw[List.length_append,List.length_take];simp only[List.length_cons,List.length_nil];omega
  ·rw[eu hi] at hn;exact hn
 refine condT (λhc=>absurd hc di) (λ_=>?_)
 rw[List.take_length]
 refine iN (n:=gs.length) (λk y=>∃T,y=((k:Int),qG p gs k,T,e7 gs k)/\∀i,bS T i=stk p gs k i) (λy=>y.1) 0 (λk y hy=>by obtain⟨T,rfl,_⟩:=hy;simp) ⟨[],rfl,λi=>fq (λhh=>absurd hh (Nat.not_lt_zero _))⟩ ?_ ?_
 ·rintro k _ next hk ⟨T,rfl,hT⟩ hn
  have hg:=ha.grp k hk
  have hsg:=hs.2 k hk
  have fo:=sj ha hp hk
  have ol:=uu hsg hg fo.1 fo.2
  have ql:=tf ha k om
  have m16:=j7 hg
  have m0:=hg.mem 0 (by have:=hg.two;omega)
  have ml:=jA hs k om
  have sl:=λi=>oM ha i k om
  have hQ:qG p gs (k+1)=gY (qG p gs k++j6 (at' gs (k:Int)) p) (at' gs (k:Int)).Members (nX (at' gs (k:Int)) (dQ (at' gs (k:Int)) p)):=rfl
  have hS:∀i,stk p gs (k+1) i=stk p gs k i++kq (at' gs (k:Int)) (qG p gs k).length (bD (at' gs (k:Int))).length i:=λi=>rfl
  have hM:=iM hk
  refine condT (λ_=>⟨⟨by omega,by omega⟩,⟨by omega,by have:=hg.two;omega⟩,⟨m0.1,m0.2.1⟩,_,_,_,mF hsg hg fo.1 fo.2 ⟨rfl,rfl,rfl⟩,?_⟩) (λhc=>absurd (show(k:Int)<(gs.length:Int) by omega) hc)
  refine ct (λhh=>by cases hh) (λ_=>?_)
  have fe:at' p (at' (at' gs (k:Int)).Members 0)=dQ (at' gs (k:Int)) p:=rfl
  rw[fe]
  generalize at' gs (k:Int)=g at *
  have hLl:∀L,(bD g).map (λs=>(⟨mD g (dQ g p) s,eZ g.Members s⟩:Gcause))=L->L.length=(bD g).length/\∀j:Nat,j<(bD g).length->at' L (j:Int)=⟨mD g (dQ g p) (at' (bD g) (j:Int)),eZ g.Members (at' (bD g) (j:Int))⟩:=by
   rintro _ rfl
   exact⟨List.length_map ..,λj hj=>rA hj⟩
  generalize hL:(bD g).map (λs=>(⟨mD g (dQ g p) s,eZ g.Members s⟩:Gcause))=L
  obtain⟨l1,l2⟩:=hLl L hL
  clear hLl hL
  have nl:(j6 g p).length=(bD g).length:=List.length_map ..
  refine iN (n:=(bD g).length) (λj y=>∃T2,y=((j:Int),qG p gs k++(j6 g p).take j,T2)/\∀i,bS T2 i=stk p gs k i++kq g (qG p gs k).length j i) (λy=>y.1) 0 (λj y hy=>by obtain⟨T2,rfl,_⟩:=hy;simp) ⟨T,by simp,λi=>by rw[hT];simp[kq]⟩ ?_ ?_
  ·rintro j _ next3 hj ⟨T2,rfl,hT2⟩ hn3
   refine condT (λhc=>⟨⟨by omega,hc⟩,?_⟩) (λhc=>absurd (show(j:Int)<(L.length:Int) by omega) hc)
   rw[l2 j hj]
   have hq2:(qG p gs k++(j6 g p).take j).length=(qG p gs k).length+j:=by rw[List.length_append,List.length_take,nl];omega
   have hms:at' (bD g) (j:Int)∈bD g:=pd hj
   have hcp:=ol.2 _ hms
   have hsb:∀ {t:Nat},t<(eZ g.Members (at' (bD g) (j:Int))).length->at' (eZ g.Members (at' (bD g) (j:Int))) (t:Int)∉(eZ g.Members (at' (bD g) (j:Int))).take t:=λhtt=>ug hg htt
   have hsl:(eZ g.Members (at' (bD g) (j:Int))).length<=60:=by rw[sW];exact Nat.le_trans o_ hsg.1
   have hss:∀i,kq g (qG p gs k).length (j+1) i=kq g (qG p gs k).length j i++if i∈eZ g.Members (at' (bD g) (j:Int)) then [(((qG p gs k).length+j:Nat):Int)] else []:=λi=>rH
   have hnp:(j6 g p).take (j+1)=(j6 g p).take j++[mD g (dQ g p) (at' (bD g) (j:Int))]:=by
    rw[eu om]
    unfold j6
    rw[rA hj]
   have stl:=λi=>pr (g:=g) (q:=(qG p gs k).length) (j:=j) (i:=i)
   dsimp only
   generalize at' (bD g) (j:Int)=s at *
   generalize hB:eZ g.Members s=B at *
   refine iN (n:=B.length) (λt y=>∃T3,y=((t:Int),T3)/\∀i,bS T3 i=stk p gs k i++kq g (qG p gs k).length j i++(if i∈B.take t then [(((qG p gs k).length+j:Nat):Int)] else [])) (λy=>y.1) 0 (λt y hy=>by obtain⟨T3,rfl,_⟩:=hy;simp) ⟨T2,rfl,λi=>by rw[hT2];simp⟩ ?_ ?_
   ·rintro t _ next4 htt ⟨T3,rfl,hT3⟩ hn4
    have hm:bS T3 (at' B (t:Int))=stk p gs k (at' B (t:Int))++kq g (qG p gs k).length j (at' B (t:Int)):=by
     rw[hT3,if_neg (hsb htt),List.append_nil]
    have s1:=sl (at' B (t:Int))
    have s2:=stl (at' B (t:Int))
    refine condT (λhc=>⟨⟨by omega,hc⟩,?_,by unfold rng;omega,hn4 _ ⟨_,rfl,λi=>?_⟩⟩) (λhc=>absurd (show(t:Int)<(B.length:Int) by omega) hc)
    ·rw[hm,List.length_append,List.length_append];simp only[List.length_cons,List.length_nil];omega
    ·by_cases hi:i=at' B (t:Int)
     ·rw[hi,oD,hm,hq2,eu htt,if_pos (List.mem_append.2 (Or.inr (List.mem_singleton.2 rfl)))]
     ·rw[t1 hi,hT3,eu htt]
      congr 1
      by_cases h5:i∈B.take t
      ·rw[if_pos h5,if_pos (List.mem_append.2 (Or.inl h5))]
      ·rw[if_neg h5,if_neg (λhh=>(List.mem_append.1 hh).elim h5 (λh6=>hi (List.mem_singleton.1 h6)))]
   ·rintro _ next4 ⟨T3,rfl,hT3⟩
    rw[List.take_length] at hT3
    refine condT (λhc=>absurd hc di) (λ_=>gI hcp.1 hcp.2 ⟨?_,by unfold rng;omega,hn3 _ ⟨T3,?_,λi=>?_⟩⟩)
    ·rw[List.length_append,hq2];simp only[List.length_cons,List.length_nil];omega
    ·rw[hnp,<-List.append_assoc];rfl
    ·rw[hT3,hss,List.append_assoc]
  ·rintro _ next3 ⟨T2,rfl,hT2⟩
   rw[show(j6 g p).take (bD g).length=j6 g p by rw[<-nl,List.take_length]]
   refine condT (λhc=>absurd (show((bD g).length:Int)<(L.length:Int) from hc) om) (λ_=>?_)
   have g60:=hsg.1
   have ql2:(qG p gs k++j6 g p).length=(qG p gs k).length+(bD g).length:=by rw[List.length_append,nl]
   refine jm (n:=g.Members.length) (λt=>((t:Int),gY (qG p gs k++j6 g p) (g.Members.take t) (nX g (dQ g p)),e7 gs k++g.Members.take t)) (λy=>y.1) 0 (λt=>by simp) (by simp[gY]) (λt next5 htt hn5=>?_) (λnext5=>?_)
   ·have hm:=hg.mem t htt
    refine condT (λhc=>⟨⟨by omega,hc⟩,gI ol.1.1 ol.1.2 ⟨⟨hm.1,?_⟩,?_,by unfold rng;omega,?_⟩⟩) (λhc=>absurd (show(t:Int)<(g.Members.length:Int) by omega) hc)
    ·rw[j3,ql2];omega
    ·rw[List.length_append,List.length_append,List.length_take];simp only[List.length_cons,List.length_nil];omega
    ·rw[pC htt,eu htt,<-List.append_assoc] at hn5
     exact hn5
   ·refine condT (λhc=>absurd hc di) (λ_=>⟨by unfold rng;omega,hn _ ⟨T2,?_,λi=>?_⟩⟩)
    ·rw[List.take_length,hQ,hM];rfl
    ·rw[hT2,hS]
 ·rintro _ next ⟨T,rfl,hT⟩
  refine condT (λhc=>absurd hc di) (λ_=>?_)
  have ql:=tf ha gs.length (Nat.le_refl _)
  have ml:=jA hs gs.length (Nat.le_refl _)
  have sl:=λi=>oM ha i gs.length (Nat.le_refl _)
  have mr:=mem_range ha gs.length (Nat.le_refl _)
  refine⟨λy=>y=(decide (jq f p gs),T),condT (λa=>?_) (λa=>⟨by unfold rng;omega,?_⟩),?_⟩
  ·show(true,T)=_
   rw[decide_eq_true (show jq f p gs from Or.inl om)]
  ·show(decide _,T)=_
   rw[decide_eq_decide.2 (show(128<((e7 gs gs.length).length:Int)+(f.Nodes.length:Int))↔jq f p gs from⟨λb=>Or.inr om,λb=>b.elim (λb=>absurd om a) (λb=>om)⟩)]
  rintro _ rfl
  refine condT (λa=>?_) (λa=>?_)
  ·rw[if_pos a] at h;exact h
  rw[if_neg a] at h
  unfold jq at a
  refine⟨⟨v0,Int.le_refl _,by omega,by omega⟩,?_⟩
  rw[sf,show f.Vars.toNat=p.length by omega]
  refine jm (n:=p.length) (λi=>((i:Int),lC p.length i)) (λy=>y.1) 0 (λi=>by simp) rfl (λi next6 hi hn6=>?_) (λnext6=>?_)
  ·refine condT (λhc=>⟨⟨by omega,by rw[ny];exact hc⟩,by unfold rng;omega,?_⟩) (λhc=>absurd (show(i:Int)<(p.length:Int) by omega) hc)
   rw[tM];exact hn6
  refine condT (λhc=>absurd hc di) (λ_=>?_)
  unfold qI ru at h
  generalize hMS:e7 gs gs.length=MS at *
  generalize hQQ:qG p gs gs.length=QQ at *
  refine jm (n:=MS.length) (λt=>((t:Int),toG p.length QQ.length MS t,(MS.take t).map (jg p gs))) (λy=>y.1) 0 (λt=>by simp) rfl (λt next7 htt hn7=>?_) (λnext7=>?_)
  ·have hm:=mr _ (pd htt)
   have s1:=sl (at' MS (t:Int))
   have lt:((MS.take t).map (jg p gs)).length=t:=by rw[List.length_map,List.length_take];omega
   have e1:toG p.length QQ.length MS (t+1)=b6 (toG p.length QQ.length MS t) (at' MS (t:Int)) ((QQ.length:Int)+(((MS.take t).map (jg p gs)).length:Int)):=by rw[lt];rfl
   rw[eu htt,List.map_append,e1] at hn7
   refine condT (λhc=>⟨⟨by omega,hc⟩,by rw[lt];unfold rng;omega,⟨hm.1,by rw[iE];exact hm.2⟩,condT (λc=>?_) (λc=>?_)⟩) (λhc=>absurd (show(t:Int)<(MS.length:Int) by omega) hc)
   ·rw[hT]
    refine⟨?_,?_,by unfold rng;omega,hn7⟩
    ·rw[List.length_append];simp only[List.length_cons,List.length_nil];omega
    ·rw[List.length_append,lt];simp only[List.length_cons,List.length_nil];omega
   ·refine⟨by simp,?_,by unfold rng;omega,?_⟩
    ·rw[List.length_append,lt];simp only[List.length_cons,List.length_nil];omega
    ·have e2:=hT (at' MS (t:Int))
     rw[fq c] at e2
     have e3:jg p gs (at' MS (t:Int))=⟨3,0,[at' MS (t:Int)]++[]⟩:=by unfold jg;rw[<-e2];rfl
     rw[List.map_cons,List.map_nil,e3] at hn7
     exact hn7
  refine condT (λhc=>absurd hc di) (λ_=>?_)
  rw[List.take_length]
  have tl:(toF p.length QQ.length MS f.Nodes.length).length=p.length+f.Nodes.length:=ub
  have t0:(toF p.length QQ.length MS f.Nodes.length).take (p.length+0)=toG p.length QQ.length MS MS.length:=by
   unfold toF
   rw[Nat.add_zero,List.take_append_of_le_length (Nat.le_of_eq iE.symm),List.take_of_length_le (Nat.le_of_eq iE)]
  have ta:∀j,j<f.Nodes.length->at' (toF p.length QQ.length MS f.Nodes.length) ((p.length+j:Nat):Int)=((QQ.length+MS.length+j:Nat):Int):=λj hj=>sK hj
  generalize toF p.length QQ.length MS f.Nodes.length=F at *
  refine jm (n:=f.Nodes.length) (λj=>((j:Int),F.take (p.length+j),MS.map (jg p gs)++(f.Nodes.take j).map (k_ F))) (λy=>y.1) 0 (λj=>by simp) (by rw[t0];simp) (λj next8 hj hn8=>?_) (λnext8=>?_)
  ·have ng:=nm (ha.fg.node j hj)
   have hl:(F.take (p.length+j)).length=p.length+j:=by rw[List.length_take];omega
   have nl:(MS.map (jg p gs)++(f.Nodes.take j).map (k_ F)).length=MS.length+j:=by rw[List.length_append,List.length_map,List.length_map,List.length_take];omega
   have hin:∀i:Nat,i<(at' f.Nodes (j:Int)).Args.length->at' (F.take (p.length+j)) (at' (at' f.Nodes (j:Int)).Args (i:Int))=at' F (at' (at' f.Nodes (j:Int)).Args (i:Int)):=λi hi=>by
    have:=ng.arg i hi
    obtain⟨n,hn⟩:=Int.eq_ofNat_of_zero_le this.1
    rw[hn]
    exact nI om
   have a16:=ng.len
   refine condT (λhc=>⟨⟨by omega,hc⟩,?_⟩) (λhc=>absurd (show(j:Int)<(f.Nodes.length:Int) by omega) hc)
   refine jm (n:=(at' f.Nodes (j:Int)).Args.length) (λi=>((i:Int),((at' f.Nodes (j:Int)).Args.take i).map (λa=>at' F a))) (λy=>y.1) 0 (λi=>by simp) (by simp) (λi next9 hi hn9=>?_) (λnext9=>?_)
   ·have ar:=ng.arg i hi
    rw[eu hi,List.map_append] at hn9
    refine condT (λhc=>⟨⟨by omega,hc⟩,⟨ar.1,by rw[hl];omega⟩,?_,by unfold rng;omega,?_⟩) (λhc=>absurd (show(i:Int)<((at' f.Nodes (j:Int)).Args.length:Int) by omega) hc)
    ·rw[List.length_append,List.length_map,List.length_take];simp only[List.length_cons,List.length_nil];omega
    ·rw[hin i hi];exact hn9
   refine condT (λhc=>absurd hc di) (λ_=>?_)
   rw[List.take_length]
   have e5:F.take (p.length+(j+1))=F.take (p.length+j)++[((QQ.length:Int)+((MS.length+j:Nat):Int))]:=by
    rw[<-Nat.add_assoc,eu om,ta j hj]
    congr 2
    omega
   rw[e5,eu hj,List.map_append,<-List.append_assoc,List.map_cons,List.map_nil] at hn8
   rw[nl]
   refine⟨by unfold rng;omega,?_,?_,by unfold rng;omega,hn8⟩
   ·rw[List.length_append,hl];simp only[List.length_cons,List.length_nil];omega
   ·rw[List.length_append,nl];simp only[List.length_cons,List.length_nil];omega
  refine condT (λhc=>absurd hc di) (λ_=>?_)
  rw[List.take_length,List.take_of_length_le om]
  refine⟨⟨ha.fg.top0,by have:=ha.fg.top;omega⟩,h⟩
end Go.Gg
namespace Go.Gg
theorem qD {a:List Int} {Q:Bool->Prop} (la:a.length<=9223372036854775807) (h:Q true):ju a a Q:=by
 refine fI (λhh=>absurd rfl hh) λ_=>ku (n:=a.length) (λ_=>False) la (λi next hi _ hnx=>⟨⟨by omega,by omega⟩,⟨by omega,by omega⟩,fI (λhh=>absurd rfl hh) λ_=>hnx id⟩) (λ_=>h)
theorem qH {f:GFormula} {Q:Bool->Prop} (lf:f.Nodes.length<=9223372036854775807) (la:∀i:Nat,i<f.Nodes.length->(at' f.Nodes (i:Int)).Args.length<=9223372036854775807) (h:Q true):gL f f Q:=by
 refine fI (λhh=>absurd rfl hh) λ_=>fI (λhh=>absurd rfl hh) λ_=>fI (λhh=>absurd rfl hh) λ_=>ku (n:=f.Nodes.length) (λ_=>False) lf (λi next hi _ hnx=>?_) (λ_=>h)
 have hb:(0:Int)<=(i:Int)/\(i:Int)<(f.Nodes.length:Int):=⟨by omega,by omega⟩
 exact⟨hb,hb,fI (λhh=>absurd rfl hh) λ_=>⟨hb,hb,fI (λhh=>absurd rfl hh) λ_=>⟨hb,hb,true,qD (la i hi) rfl,ct (λhh=>by cases hh) λ_=>hnx id⟩⟩⟩
theorem rY {f:GFormula} {Q:Bool->Prop} (h:∀b,Q b):h9 f Q:=by
 refine condT (λ_=>h _) (λhc=>?_)
 exact ku (λ_=>False) om (λi next hi hI hnx=>⟨⟨by omega,by omega⟩,condT (λ_=>h _) (λ_=>hnx (λhh=>hh))⟩) (λ_=>h _)
end Go.Gg
namespace Go.Gg
theorem sJ {v m:Nat} {a:Int} (h0:0<=a) (h:a<v+m):at' (toF v v [] m) a=a:=by
 obtain⟨n,rfl⟩:=Int.eq_ofNat_of_zero_le h0
 rcases Nat.lt_or_ge n v with h1 | h1
 ·have e:toF v v [] m=lC v v++(List.range m).map (λj:Nat=>((v+0+j:Nat):Int)):=rfl
  rw[e]
  unfold at'
  rw[Int.toNat_natCast,List.getD_eq_getElem?_getD,List.getElem?_append_left (by rw[ny];exact h1)]
  simp[lC,h1]
 ·have:=sK (v:=v) (q:=v) (m:=m) (j:=n-v) (ms:=[]) om
  rw[show v+(n-v)=n by omega] at this
  rw[this]
  simp
  omega
theorem sm {f:GFormula} {p:List GRat} (ha:Acc f p []):qI f p []=f:=by
 have pl:=ha.len
 have e0:ru f p []=toF p.length p.length [] f.Nodes.length:=rfl
 have e1:at' (toF p.length p.length [] f.Nodes.length) f.Top=f.Top:=sJ ha.fg.top0 (by have:=ha.fg.top;omega)
 have e2:f.Nodes.map (k_ (toF p.length p.length [] f.Nodes.length))=f.Nodes:=by
  refine(List.map_congr_left (g:=id) (λnd hnd=>?_)).trans (List.map_id _)
  obtain⟨j,hj,rfl⟩:=List.mem_iff_getElem.1 hnd
  have ng:=nm (ha.fg.node j hj)
  have e3:at' f.Nodes (j:Int)=f.Nodes[j]:=by simp[at',List.getD_eq_getElem?_getD,hj]
  have arg:=ng.arg
  rw[e3] at arg
  have e4:(f.Nodes[j]).Args.map (λa=>at' (toF p.length p.length [] f.Nodes.length) a)=(f.Nodes[j]).Args:=by
   refine(List.map_congr_left (g:=id) (λa hm=>?_)).trans (List.map_id _)
   obtain⟨i,hi,rfl⟩:=lA.1 hm
   have:=arg i hi
   exact sJ this.1 om
  show k_ _ _=f.Nodes[j]
  unfold k_
  rw[e4]
 unfold qI
 rw[e0,e1,e2]
 show(⟨(p.length:Int),f.Nodes,f.Top⟩:GFormula)=f
 rw[pl]
theorem sk {f:GFormula} {p:List GRat}:p' f p []=if iw f p []≠0 then (⟨0,[],0⟩,[],iw f p []) else (f,p,0):=by
 unfold p'
 by_cases e:iw f p []=0
 ·have ha:=Acc.of e
  have pl:=ha.len
  have v24:=ha.fg.v24
  have n128:=ha.fg.n128
  have nb:¬jq f p []:=λb=>b.elim (λb=>by have:24<p.length:=b;omega) (λb=>by have:128<0+f.Nodes.length:=b;omega)
  rw[if_neg (λhh=>hh e),if_neg nb,if_neg (λhh=>hh e),sm ha]
  rfl
 ·rw[if_pos e,if_pos e]
def dF:GCauseGroup:=⟨0,[0,1],[⟨false,[],[]⟩]⟩
theorem t8:Sh (⟨false,[],[]⟩:GRat):=by
 have h:Rp 12 (aH ((0:Int) / (1:Int):Rat)) ((0:Int) / (1:Int):Rat):=eY (n:=0) (d:=1) (by decide) (by decide)
 have e:aH (((0:Int):Rat) / ((1:Int):Rat))=(⟨false,[],[]⟩:GRat):=by decide +kernel
 have:=iz h om
 rwa[e] at this
theorem tm:t3 [dF]:=⟨by decide,λi hi=>by
 match i with
 | 0=>exact⟨by decide,by decide,λj hj=>by
   match j with
   | 0=>exact t8
   | j+1=>exact absurd hj (by simp[dF,at'])⟩
 | i+1=>exact absurd hi (by simp)⟩
theorem n_:cc (⟨false,[],[]⟩:GRat)=true:=by
 have e:aH (((0:Int):Rat) / ((1:Int):Rat))=(⟨false,[],[]⟩:GRat):=by decide +kernel
 rw[<-e,eE]
 decide +kernel
theorem sv:bh (⟨false,[],[]⟩:GRat)=0:=by
 have e:aH (((0:Int):Rat) / ((1:Int):Rat))=(⟨false,[],[]⟩:GRat):=by decide +kernel
 rw[<-e,cw]
 decide +kernel
theorem pL {q:GRat} (hq:cc q=true):fJ q ⟨false,[],[]⟩=(q,aH 0,0):=by
 obtain⟨h1,_,_⟩:=pJ hq
 unfold fJ
 rw[if_neg (by rw[hq,n_];simp),sv,Rat.zero_mul,if_neg (by decide +kernel)]
 have e:(bh q-0) / (1-0)=bh q:=by
  rw[show(1-0:Rat)=1 by decide +kernel,Rat.div_def,show(1:Rat)⁻¹=1 by decide +kernel,Rat.mul_one,Rat.sub_eq_add_neg,show(-0:Rat)=0 by decide +kernel,Rat.add_zero]
 rw[e,<-h1]
theorem ux {f:GFormula} {p:List GRat} (h:iw f p []=0) (h2:2<=p.length) (he:at' p 0=at' p 1):iw f p [dF]=0:=by
 have ha:=Acc.of h
 have pz:dA dF.Factors=true:=by
  show dA [_]=true
  rw[j5,n_]
 have mz:∀i,i<dF.Members.length->mv p.length [] dF.Members i=0:=λi hi=>by
  match i with
  | 0=>
   unfold mv
   rw[if_neg (by show ¬((0:Int)<0\/(p.length:Int)<=0);omega),if_neg (by decide)]
  | 1=>
   unfold mv
   rw[if_neg (by show ¬((1:Int)<0\/(p.length:Int)<=1);omega),if_neg (by decide)]
  | i+2=>exact absurd hi (by simp[dF])
 have nz:¬∃i,i<dF.Members.length/\bh (at' p (at' dF.Members (i:Int)))≠bh (at' p (at' dF.Members 0)):=by
  rintro⟨i,hi,hne⟩
  match i with
  | 0=>exact hne rfl
  | 1=>exact hne (congrArg bh he.symm)
  | i+2=>exact absurd hi (by simp[dF])
 have g0:p6 dF p []=0:=by
  unfold p6
  rw[if_neg (by decide),if_neg (by decide),if_neg (λhh=>hh (cr.2 mz)),if_neg (by rw[pz];simp),if_neg nz]
 unfold iw
 rw[if_neg (λhh=>hh (tU.2 ha.fg)),if_neg (λhh=>hh ha.len),if_neg (by rw[ha.prob];simp)]
 show(if (0:Int)=0 then cgE [dF] p 0 else 0)=0
 rw[if_pos rfl]
 exact g0
theorem pB {q:List GRat} {i:Nat} (h:i<q.length):b6 q (i:Int) (at' q (i:Int))=q:=by
 refine List.ext_getElem (by simp[b6]) (λj h1 h2=>?_)
 simp only[b6,Int.toNat_natCast,List.getElem_set]
 split
 ·rename_i e
  subst e
  simp[at',List.getD_eq_getElem?_getD,h]
 ·rfl
theorem wH {p:List GRat} (h2:2<=p.length) (he:at' p 0=at' p 1) (hq:cc (at' p 0)=true):qG p [dF] 1=p++[aH 0]:=by
 have hf:dQ dF p=at' p 0:=rfl
 show gY (p++j6 dF p) [0,1] (nX dF (dQ dF p))=_
 have e1:j6 dF p=[aH 0]:=by
  show [(fJ (dQ dF p) ⟨false,[],[]⟩).2.1]=_
  rw[hf,pL hq]
 have e2:nX dF (dQ dF p)=at' p 0:=by
  show(fJ (dQ dF p) ⟨false,[],[]⟩).1=_
  rw[hf,pL hq]
 rw[e1,e2]
 show b6 (b6 (p++[aH 0]) ((0:Nat):Int) (at' p 0)) ((1:Nat):Int) (at' p 0)=_
 have a0:at' p 0=at' (p++[aH 0]) ((0:Nat):Int):=(md om om).symm
 have a1:at' p 0=at' (p++[aH 0]) ((1:Nat):Int):=he.trans (md om om).symm
 rw[a0,pB (by simp),<-a0,a1,pB (by simp;omega)]
end Go.Gg
