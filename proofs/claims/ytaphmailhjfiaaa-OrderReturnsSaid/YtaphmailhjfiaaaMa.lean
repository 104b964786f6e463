/- What the functions on natural numbers compute, told of their formulas: part A. Conditions: none. -/
import Derived.Test.YtaphmailhjfiaaaGc
import Derived.KernelRfl
import Derived.Test.YtaphmailhjfiaaaWa
namespace Go.Gg
theorem oz (l:List Int) (i:Int):at' l i=l.getD i.toNat 0:=rfl
theorem gG (l:List Int) (i:Nat):at' l (i:Int)=l.getD i 0:=rfl
theorem cX {α:Type} (l:List α) (i:Nat) (x:α):set' l (i:Int) x=l.set i x:=rfl
theorem qG {α:Type} (n:Nat) (x:α):bG (n:Int) x=List.replicate n x:=rfl
theorem ga {α:Type} {e:α} {k:α->Prop} (h:k e):fp e k:=λ_ hv=>hv▸h
theorem condT {c:Prop} [Decidable c] {a b:Prop} (h1:c->a) (h2:¬c->b):ae (decide c) a b:=⟨λh=>h1 (of_decide_eq_true h),λh=>h2 (of_decide_eq_false h)⟩
theorem cS {α:Type} [DecidableEq α] {x y:α} {a b:Prop} (h1:x=y->a) (h2:x≠y->b):ae (x == y) a b:=⟨λh=>h1 (by simpa using h),λh=>h2 (by simpa using h)⟩
theorem gE {α:Type} [DecidableEq α] {x y:α} {a b:Prop} (h1:x≠y->a) (h2:x=y->b):ae (x != y) a b:=⟨λh=>h1 (by simpa using h),λh=>h2 (by simpa using h)⟩
theorem mG {b:Nat} {n:Nat} (hb:b<=200) (h:n<=1099511627776):iR b (n:Int) (n:Int):=⟨by omega,Int.le_refl _,by
 have:(b:Int)*(n:Int)<=200*1099511627776:=Int.mul_le_mul om om om om
 omega,by omega⟩
abbrev SM (l:List Int):Prop:=l.length<=1099511627776
theorem co {a:List Int} {i:Nat} {Q:Int->Prop} (hw:Words a) (h:Q (a.getD i 0)):bQ a (i:Int) Q:=by
 refine condT (λhc=>⟨⟨by omega,hc⟩,?_⟩) (λhc=>?_)
 ·rw[gG]
  have:=hw i
  rw[wrap_u64_id om om]
  exact h
 ·rw[oo om] at h
  exact h
theorem bu {a:List Int} {Q:List Int->Prop} (hw:Words a) (hl:SM a) (h:Q (lim (val a))):bm a Q:=by
 refine⟨λn=>∃j:Nat,n=j/\j<=a.length/\(∀i,j<=i->i<a.length->a.getD i 0=0)/\(0<j->a.getD (j-1) 0≠0),?_,?_⟩
 ·refine⟨λn=>∃j:Nat,n=j/\j<=a.length/\(∀i,j<=i->i<a.length->a.getD i 0=0),λn=>n.toNat,⟨a.length,rfl,Nat.le_refl _,λi h1 h2=>om⟩,?_⟩
  rintro n ⟨j,rfl,hj,hz⟩
  refine condT (λhc=>⟨by unfold rng;omega,⟨by omega,by omega⟩,cS (λhe=>⟨by unfold rng;omega,⟨j-1,by omega,by omega,λi h1 h2=>?_⟩,by dsimp only;omega⟩) (λhe=>⟨j,rfl,hj,hz,λ_=>?_⟩)⟩) (λhc=>⟨j,rfl,hj,hz,λh0=>om⟩)
  ·by_cases hi:i=j-1
   ·subst hi
    rw[oz] at he
    have:((j:Int)-1).toNat=j-1:=om
    rwa[this] at he
   ·exact hz i om h2
  ·rw[oz] at he
   have:((j:Int)-1).toNat=j-1:=om
   rwa[this] at he
 ·rintro n ⟨j,rfl,hj,hz,hlast⟩
  have e:=mI hw hj hz hlast
  refine cS (λhc=>?_) (λhc=>⟨⟨by omega,by omega,by omega⟩,?_,?_⟩)
  ·obtain rfl:j=0:=om
   rw[<-e] at h
   exact h
  ·simp[cU]
   have:min j a.length<=a.length:=om
   omega
  ·rw[<-e] at h
   simpa[cU] using h
theorem fG {a b:List Int} {Q:Int->Prop} (ha:Words a) (hb:Words b) (la:SM a) (lb:SM b) (h:Q (lP (val a) (val b))):cC a b Q:=by
 refine bu ha la (bu hb lb ?_)
 have b1:=dS ha
 have b2:=dS hb
 have w1:=aF (val a)
 have w2:=aF (val b)
 have v1:=ca w1
 have v2:=ca w2
 rw[bf] at v1 v2
 generalize hA:lim (val a)=A at *
 generalize hB:lim (val b)=B at *
 have hlt:A.length<B.length->val a<val b:=λh=>by
  rw[<-hA,<-hB] at h
  rcases Nat.lt_or_ge (val a) (val b) with h' | h'
  ·exact h'
  ·have:=c7 h'
   omega
 have hgt:B.length<A.length->val b<val a:=λh=>by
  rw[<-hA,<-hB] at h
  rcases Nat.lt_or_ge (val b) (val a) with h' | h'
  ·exact h'
  ·have:=c7 h'
   omega
 unfold SM at la lb
 refine gE (λhc=>condT (λh1=>?_) (λh1=>?_)) (λhc=>⟨by unfold rng;omega,?_⟩)
 ·rw[lP,if_pos (hlt om)] at h;exact h
 ·have:=hgt om
  rw[lP,if_neg om,if_neg om] at h;exact h
 ·have hlen:A.length=B.length:=om
  refine⟨λi=>∃j:Nat,i=(j:Int)-1/\j<=A.length/\(∀k,j<=k->k<A.length->A.getD k 0=B.getD k 0),λi=>(i+1).toNat,⟨A.length,rfl,Nat.le_refl _,λk h1 h2=>om⟩,?_⟩
  rintro i ⟨j,rfl,hj,he⟩
  have hj1:((j:Int)-1).toNat=j-1:=om
  refine condT (λhc=>⟨⟨by omega,by omega⟩,⟨by omega,by omega⟩,?_⟩) (λhc=>?_)
  ·rw[oz,oz,hj1]
   refine condT (λh1=>?_) (λh1=>⟨⟨by omega,by omega⟩,⟨by omega,by omega⟩,condT (λh2=>?_) (λh2=>⟨by unfold rng;omega,⟨j-1,by omega,by omega,λk h3 h4=>?_⟩,by dsimp only;omega⟩)⟩)
   ·have:=uQ w1 w2 (i:=j-1) (n:=A.length) om h1 (λk h1 h2=>he k om h2)
    rw[<-hlen] at v2
    rw[lP,if_pos om] at h;exact h
   ·have:=uQ w2 w1 (i:=j-1) (n:=A.length) om h2 (λk h1 h2=>(he k om h2).symm)
    rw[<-hlen] at v2
    rw[lP,if_neg om,if_neg om] at h;exact h
   ·by_cases hk:k=j-1
    ·subst hk;omega
    ·exact he k om h4
  ·have:=h9 (l:=A) (m:=B) A.length (λk hk=>he k om hk)
   rw[<-hlen] at v2
   rw[lP,if_neg om,if_pos om] at h;exact h
theorem nb {a b:List Int} {Q:List Int->Prop} (ha:Words a) (hb:Words b) (la:SM a) (lb:a.length<=1099511627775/\b.length<=1099511627775) (h:Q (lim (val a+val b))):fH a b Q:=by
 unfold SM at la
 obtain⟨n,hn0⟩:∃n,n=max a.length b.length+1:=⟨_,rfl⟩
 have hn:max (a.length:Int) (b.length:Int)+1=(n:Int):=om
 unfold fH
 rw[hn]
 refine⟨by unfold rng;omega,mG om om,?_⟩
 rw[Int.toNat_natCast]
 refine⟨λy=>∃i:Nat,y.2.1=i/\i<=n/\y.2.2.length=n/\Words y.2.2/\0<=y.1/\y.1<=1/\pv y.2.2 i+y.1*4294967296^i=pv a i+pv b i,λy=>n-y.2.1.toNat,⟨0,rfl,by omega,by simp[bG],Words.rep n,by omega,by omega,by simp[pv]⟩,?_⟩
 rintro⟨c,x,out⟩ ⟨i,hx,hi,hlen,hw,hc0,hc1,hpv⟩
 simp only at hx hi hlen hw hc0 hc1 hpv
 subst hx
 have hxl:=ha i
 have hxm:=hb i
 refine condT (λhlt=>?_) (λhge=>?_)
 ·refine co ha (co hb (ga ⟨⟨by omega,by omega⟩,by unfold rng;omega,?_,?_⟩))
  ·simp (disch:=omega) only[cX,wrap_u64_id,wrap_u32]
   refine⟨i+1,by omega,by omega,by simp[hlen],hw.set _ om om,by show 0<=_ / 4294967296;omega,by show _ / 4294967296<=1;omega,?_⟩
   show pv (out.set i _) (i+1)+_ / 4294967296*_=_
   rw[mv om,Int.pow_succ,pv,pv,Int.add_assoc,jZ]
   have:=Int.add_mul c (a.getD i 0+b.getD i 0) (4294967296^i)
   have:=Int.add_mul (a.getD i 0) (b.getD i 0) (4294967296^i)
   omega
  ·show n-((i:Int)+1).toNat<n-(i:Int).toNat
   omega
 ·obtain rfl:i=n:=om
  refine bu hw (by unfold SM;omega) ?_
  have e:val out=val a+val b:=by
   have a1:=gb hw (i:=i) om
   have a2:=gb ha (i:=i) om
   have a3:=gb hb (i:=i) om
   have b2:=nv (l:=a) (i-1) om
   have b3:=nv (l:=b) (i-1) om
   have b4:=nv (l:=a) i om
   have b5:=nv (l:=b) i om
   have c2:=(bz ha (i-1)).2
   have c3:=(bz hb (i-1)).2
   have hi1:i=i-1+1:=om
   have hc:=hpv
   rw[hi1,Int.pow_succ,<-hi1] at hc
   have:=qg hc om om om hc0 hc1 (ft _)
   subst this
   omega
  rw[e]
  exact h
theorem jw {a b:List Int} {Q:List Int->Option Int->Prop} (ha:Words a) (hb:Words b) (la:SM a) (lb:SM b) (h1:val a<val b->Q [] (some 3)) (h2:val b<=val a->Q (lim (val a-val b)) none):fE a b Q:=by
 refine fG ha hb la lb (condT (λhc=>h1 (kq.1 hc)) (λhc=>⟨mG om la,?_⟩))
 have hge:val b<=val a:=by have:=mt kq.2 hc;omega
 have h:=h2 hge
 clear h1 h2
 unfold SM at la lb
 rw[Int.toNat_natCast]
 refine⟨λy=>∃i:Nat,y.2.1=i/\i<=a.length/\y.2.2.length=a.length/\Words y.2.2/\0<=y.1/\y.1<=1/\pv y.2.2 i=pv a i-pv b i+y.1*4294967296^i,λy=>a.length-y.2.1.toNat,⟨0,rfl,by omega,by simp[bG],Words.rep _,by omega,by omega,by simp[pv]⟩,?_⟩
 rintro⟨c,x,out⟩ ⟨i,hx,hi,hlen,hw,hb0,hb1,hpv⟩
 simp only at hx hi hlen hw hb0 hb1 hpv
 subst hx
 have hxl:=ha i
 have hxm:=hb i
 obtain⟨q1,q2,q3⟩:=oR (a.getD i 0) (b.getD i 0) c hxl hxm ⟨hb0,hb1⟩
 refine condT (λhlt=>co ha (co hb (ga ⟨⟨by omega,by omega⟩,by unfold rng;omega,?_,by dsimp only;omega⟩))) (λhge=>?_)
 ·simp only[cX,wrap_u32]
  generalize IntKind.u64.wrap (IntKind.u64.wrap (a.getD i 0-b.getD i 0)-c)=d at *
  have e63:d / 2^Int.toNat 63=d / 9223372036854775808:=rfl
  refine⟨i+1,by omega,by omega,by simp[hlen],hw.set _ om om,by simpa only[e63] using q2,by simpa only[e63] using q3,?_⟩
  simp only[e63]
  rw[mv om,Int.pow_succ,pv,pv,hpv]
  have e:d % 4294967296=a.getD i 0-b.getD i 0-c+4294967296*(d / 9223372036854775808):=om
  rw[e]
  generalize d / 9223372036854775808=d'
  have a1:=Int.add_mul (a.getD i 0-b.getD i 0-c) (4294967296*d') (4294967296^i)
  have a2:=Int.sub_mul (a.getD i 0-b.getD i 0) c (4294967296^i)
  have a3:=Int.sub_mul (a.getD i 0) (b.getD i 0) (4294967296^i)
  have a4:4294967296*d'*4294967296^i=d'*(4294967296^i*4294967296):=by rw[Int.mul_comm 4294967296 d',Int.mul_assoc,Int.mul_comm 4294967296]
  omega
 ·obtain rfl:i=a.length:=om
  refine bu hw (by unfold SM;omega) ?_
  have e:val out=val a-val b:=by
   have a1:=gb hw (i:=a.length) om
   have a2:=ca ha
   have a3:=bz ha a.length
   have a4:=bz hw a.length
   have a5:=bz hb a.length
   have a6:=ca hb
   rcases Nat.lt_or_ge a.length b.length with h | h
   ·have hm1:=kI hb (Nat.le_of_lt h)
    rcases (by omega:c=0\/c=1) with rfl | rfl
    ·
     have hz:pv b b.length=pv b a.length:=by
      refine lT hb (Nat.le_of_lt h) ?_
      omega
     omega
    ·omega
   ·have hm1:=gb hb h
    rcases (by omega:c=0\/c=1) with rfl | rfl<;>omega
  rw[e]
  exact h
theorem ek {a b:List Int} {Q:List Int->Prop} (ha:Words a) (hb:Words b) (la:a.length+b.length<=1099511627776) (h:Q (lim (val a*val b))):cB a b Q:=by
 obtain⟨N,hN⟩:∃N,N=a.length+b.length:=⟨_,rfl⟩
 have hNi:(a.length:Int)+(b.length:Int)=(N:Int):=om
 unfold cB
 rw[hNi]
 refine⟨by unfold rng;omega,mG om om,?_⟩
 refine⟨λy=>∃i:Nat,y.1=i/\i<=a.length/\y.2.length=N/\Words y.2/\(∀p,i+b.length<=p->y.2.getD p 0=0)/\pv y.2 N=pv a i*pv b b.length,λy=>a.length-y.1.toNat,
  ⟨0,rfl,by omega,by simp[bG],Words.rep _,λp hp=>by rw[qG,List.getD_eq_getElem?_getD,List.getElem?_replicate];split<;>rfl,by rw[qG,mw];simp[pv]⟩,?_⟩
 rintro⟨x,out⟩ ⟨i,hx,hi,hlen,hw,hz,hpv⟩
 simp only at hx hi hlen hw hz hpv
 subst hx
 have hxi:=ha i
 refine condT (λhlt=>⟨⟨by omega,hlt⟩,?_⟩) (λhge=>?_)
 ·refine⟨λy=>∃k:Nat,y.2.1=k/\k<=b.length/\y.2.2.length=N/\Words y.2.2/\(∀p,i+b.length<=p->y.2.2.getD p 0=0)/\0<=y.1/\y.1<4294967296/\
    pv y.2.2 N+y.1*4294967296^(i+k)=pv a i*pv b b.length+a.getD i 0*4294967296^i*pv b k,λy=>b.length-y.2.1.toNat,
   ⟨0,rfl,by omega,hlen,hw,hz,by omega,by omega,by simp[pv,hpv]⟩,?_⟩
  clear hpv hz hw hlen h
  rintro⟨c,x1,out2⟩ ⟨k,hx,hk,hlen,hw,hz,hc0,hc1,hpv⟩
  simp only at hx hk hlen hw hz hc0 hc1 hpv
  subst hx
  have hy:=hb k
  have ho:=hw (i+k)
  obtain⟨q1,q2⟩:=tw hxi hy
  have eik:(i:Int)+(k:Int)=((i+k:Nat):Int):=om
  have eib:(i:Int)+(b.length:Int)=((i+b.length:Nat):Int):=om
  refine condT (λhlt2=>⟨⟨by omega,hlt2⟩,by unfold rng;omega,⟨by omega,by omega⟩,ga ⟨by unfold rng;omega,⟨by omega,by omega⟩,by unfold rng;omega,?_,by dsimp only;omega⟩⟩) (λhge2=>⟨by unfold rng;omega,⟨by omega,by omega⟩,by unfold rng;omega,?_,by dsimp only;omega⟩)
  ·simp only[eik,gG,cX]
   simp (disch:=omega) only[wrap_u64_id,wrap_u32]
   have e32:∀z:Int,z / 2^Int.toNat 32=z / 4294967296:=λ_=>rfl
   simp only[e32]
   generalize hv:c+(a.getD i 0*b.getD k 0+out2.getD (i+k) 0)=v
   refine⟨k+1,by omega,by omega,by simp[hlen],hw.set _ om om,λp hp=>?_,by show 0<=v / 4294967296;omega,by show v / 4294967296<4294967296;omega,?_⟩
   ·show(out2.set (i+k) _).getD p 0=0
    rw[bR om];exact hz p hp
   ·show pv (out2.set (i+k) (v % 4294967296)) N+v / 4294967296*4294967296^(i+(k+1))=_
    rw[fM om N om,pv,<-Nat.add_assoc,Int.pow_succ,Int.mul_add,<-Int.add_assoc,<-hpv]
    have s1:=jZ v (4294967296^(i+k))
    have s2:=Int.sub_mul (v % 4294967296) (out2.getD (i+k) 0) (4294967296^(i+k))
    have s3:v*4294967296^(i+k)=c*4294967296^(i+k)+(a.getD i 0*4294967296^i*(b.getD k 0*4294967296^k)+out2.getD (i+k) 0*4294967296^(i+k)):=by
     rw[<-hv,Int.add_mul,Int.add_mul,Int.pow_add]
     congr 2
     rw[Int.mul_assoc,Int.mul_assoc,Int.mul_left_comm (b.getD k 0)]
    omega
  ·obtain rfl:k=b.length:=om
   simp only[eib,cX,wrap_u32]
   have hcm:c % 4294967296=c:=om
   rw[hcm]
   refine⟨i+1,by omega,by omega,by simp[hlen],hw.set _ om om,λp hp=>?_,?_⟩
   ·show(out2.set (i+b.length) c).getD p 0=0
    rw[bR om];exact hz p om
   ·show pv (out2.set (i+b.length) c) N=pv a (i+1)*_
    rw[fM om N om,hz (i+b.length) om,pv,Int.add_mul,Int.sub_zero]
    exact hpv
 ·obtain rfl:i=a.length:=om
  refine bu hw (by unfold SM;omega) ?_
  have e:val out=val a*val b:=by
   have a1:=gb hw (i:=N) om
   have a2:=ca ha
   have a3:=ca hb
   have:((val a*val b:Nat):Int)=(val a:Int)*(val b:Int):=by simp
   have:(val out:Int)=((val a*val b:Nat):Int):=by rw[this,a1,hpv,a2,a3]
   omega
  rw[e]
  exact h
end Go.Gg
namespace Go.Gg
theorem tf {x y i:Nat} (hx:x<2^i) (hy:2^i ∣ y):y ||| x=y+x:=by
 obtain⟨z,rfl⟩:=hy
 rw[Nat.mul_comm,<-Nat.shiftLeft_eq,Nat.shiftLeft_add_eq_or_of_lt hx]
theorem n9 {x y:Int} (i:Nat) (hx:0<=x) (hxi:x<2^i) (hy:0<=y) (hyi:y % 2^i=0) (hs:y+x<18446744073709551616):bits .or .u64 y x=y+x:=by
 obtain⟨m,rfl⟩:=Int.eq_ofNat_of_zero_le hx
 obtain⟨n,rfl⟩:=Int.eq_ofNat_of_zero_le hy
 have h1:m<2^i:=by exact_mod_cast hxi
 have h2:2^i ∣ n:=by
  have:(n:Int) % ((2^i:Nat):Int)=0:=by simpa using hyi
  exact Nat.dvd_of_mod_eq_zero om
 have h3:=tf h1 h2
 show IntKind.u64.wrap (((BitVec.ofInt 64 (n:Int)) ||| (BitVec.ofInt 64 (m:Int))).toNat:Int)=_
 rw[oH,BitVec.toNat_or,BitVec.toNat_ofInt,BitVec.toNat_ofInt]
 have e1:((n:Int) % ((2^64:Nat):Int)).toNat=n:=om
 have e2:((m:Int) % ((2^64:Nat):Int)).toNat=m:=om
 rw[e1,e2,h3]
 omega
theorem uf {x y:Int} (i:Nat) (hx:0<=x) (hxi:x<2^i) (hy:0<=y) (hyi:y % 2^i=0) (hs:y+x<18446744073709551616):bits .or .u64 x y=y+x:=by
 rw[<-n9 i hx hxi hy hyi hs]
 show IntKind.u64.wrap (((BitVec.ofInt 64 x) ||| (BitVec.ofInt 64 y)).toNat:Int)=IntKind.u64.wrap (((BitVec.ofInt 64 y) ||| (BitVec.ofInt 64 x)).toNat:Int)
 rw[BitVec.or_comm]
theorem ug {x y:Int} (i:Nat) (hx:0<=x) (hxi:x<2^i) (hy:0<=y) (hyi:y % 2^i=0) (hs:y+x<4294967296):bits .or .u32 x y=y+x:=by
 obtain⟨m,rfl⟩:=Int.eq_ofNat_of_zero_le hx
 obtain⟨n,rfl⟩:=Int.eq_ofNat_of_zero_le hy
 have h1:m<2^i:=by exact_mod_cast hxi
 have h2:2^i ∣ n:=by
  have:(n:Int) % ((2^i:Nat):Int)=0:=by simpa using hyi
  exact Nat.dvd_of_mod_eq_zero om
 have h3:=tf h1 h2
 show IntKind.u32.wrap (((BitVec.ofInt 32 (m:Int)) ||| (BitVec.ofInt 32 (n:Int))).toNat:Int)=_
 rw[wrap_u32,BitVec.toNat_or,BitVec.toNat_ofInt,BitVec.toNat_ofInt]
 have e1:((n:Int) % ((2^32:Nat):Int)).toNat=n:=om
 have e2:((m:Int) % ((2^32:Nat):Int)).toNat=m:=om
 rw[e1,e2,Nat.or_comm,h3]
 omega
def bS (n:Nat):Nat:=if n=0 then 0 else n.log2+1
theorem rX:bS 0=0:=rfl
theorem lZ {n:Nat}:n<2^bS n:=by
 unfold bS
 split
 ·omega
 ·exact Nat.lt_log2_self
theorem jn {n:Nat} (h:n≠0):2^(bS n-1)<=n:=by
 unfold bS
 rw[if_neg h]
 exact Nat.log2_self_le h
theorem nK {n k:Nat} (h:n<2^k) (h':k≠0->2^(k-1)<=n):bS n=k:=by
 by_cases h0:n=0
 ·subst h0
  cases k with
  | zero=>rfl
  | succ k=>have:=h' om;have:0<2^k:=Nat.pow_pos om;simp at *
 ·have a:=lZ (n:=n)
  have b:=jn h0
  have hk:k≠0:=by rintro rfl;simp at h;omega
  have c:=h' hk
  have hb:bS n≠0:=by unfold bS;rw[if_neg h0];omega
  rcases Nat.lt_trichotomy (bS n) k with hlt | he | hgt
  ·have:2^bS n<=2^(k-1):=Nat.pow_le_pow_right om om
   omega
  ·exact he
  ·have:2^k<=2^(bS n-1):=Nat.pow_le_pow_right om om
   omega
theorem mS {n k:Nat} (h:2^k<=n):bS n=bS (n / 2^k)+k:=by
 have hp:0<2^k:=Nat.pow_pos om
 have hq:n / 2^k≠0:=by have:=Nat.div_pos h hp;omega
 have a:=lZ (n:=n / 2^k)
 have b:=jn hq
 have hb:bS (n / 2^k)≠0:=by unfold bS;rw[if_neg hq];omega
 refine nK ?_ (λ_=>?_)
 ·rw[Nat.pow_add]
  rw[Nat.div_lt_iff_lt_mul hp] at a
  exact a
 ·have e:bS (n / 2^k)+k-1=(bS (n / 2^k)-1)+k:=om
  rw[e,Nat.pow_add]
  rw[Nat.le_div_iff_mul_le hp] at b
  exact b
theorem t2:(List.range 256).all (λk=>jR dX k == (bS k:Int))=true:=by kernel_rfl
theorem ve {k:Nat} (h:k<256):jR dX k=(bS k:Int):=by
 have:=List.all_eq_true.1 t2 k (by simpa using h)
 simpa using this
theorem sL:dX.size=256:=by kernel_rfl
theorem qT {x:Nat} {Q:Int->Prop} (hx:x<4294967296) (h:Q (bS x)):dz (x:Int) Q:=by
 refine⟨λy=>∃z k:Nat,y=((z:Int),(k:Int))/\z<65536/\k<=16/\bS x=bS z+k,?_,?_⟩
 ·refine condT (λhc=>⟨x / 65536,16,?_,by omega,by omega,?_⟩) (λhc=>⟨x,0,rfl,by omega,by omega,rfl⟩)
  ·show((x:Int) / 65536,(16:Int))=_
   rw[Prod.mk.injEq];exact⟨by omega,rfl⟩
  ·exact mS (k:=16) om
 ·rintro _ ⟨z,k,rfl,hz,hk,hb⟩
  refine⟨λy=>∃z k:Nat,y=((z:Int),(k:Int))/\z<256/\k<=24/\bS x=bS z+k,?_,?_⟩
  ·refine condT (λhc=>⟨by unfold rng;omega,z / 256,k+8,?_,by omega,by omega,?_⟩) (λhc=>⟨z,k,rfl,by omega,by omega,hb⟩)
   ·show((z:Int) / 256,(k:Int)+8)=_
    rw[Prod.mk.injEq];exact⟨by omega,by omega⟩
   ·have h8:=mS (n:=z) (k:=8) om
    have e:z / 2^8=z / 256:=rfl
    rw[e] at h8
    omega
  ·rintro _ ⟨z,k,rfl,hz,hk,hb⟩
   show(_/\_)
   have hw:IntKind.u8.wrap (z:Int)=z:=by rw[wrap_u8];omega
   have hz':(bS z:Int)<=8:=by
    have:bS z<=8:=by
     by_cases h0:z=0
     ·subst h0;simp[bS]
     ·have:=jn h0
      rcases Nat.lt_or_ge 8 (bS z) with h8 | h8
      ·have:2^8<=2^(bS z-1):=Nat.pow_le_pow_right om om
       omega
      ·exact h8
    omega
   rw[hw,sL]
   have e:(Int.toNat (z:Int))=z:=om
   rw[e,ve hz,go (by unfold rng;omega)]
   refine⟨⟨by omega,by omega⟩,by unfold rng;omega,ga ?_⟩
   have:(k:Int)+(bS z:Int)=((bS x:Nat):Int):=om
   rw[this]
   exact h
theorem k9 {x:Nat} (hx:x<4294967296):bS x<=32:=by
 by_cases h0:x=0
 ·subst h0;simp[bS]
 ·have:=jn h0
  rcases Nat.lt_or_ge 32 (bS x) with h8 | h8
  ·have:2^32<=2^(bS x-1):=Nat.pow_le_pow_right om om
   omega
  ·exact h8
theorem vG {x:Nat} {Q:Int->Prop} (hx:x<4294967296) (h:Q ((32-bS x:Nat):Int)):cN (x:Int) Q:=by
 refine qT hx ?_
 have h1:=k9 hx
 refine⟨by unfold rng;omega,?_⟩
 have:(32:Int)-(bS x:Int)=((32-bS x:Nat):Int):=om
 rw[this]
 exact h
end Go.Gg
namespace Go.Gg
theorem nj {n:Nat} (h:n<=32):(2:Int)^n*2^(32-n)=4294967296:=by
 rw[<-Int.pow_add]
 have:n+(32-n)=32:=om
 rw[this];rfl
theorem h_ (n:Nat):(0:Int)<2^n:=Int.pow_pos om
theorem i7 {a:List Int} {n:Nat} {Q:List Int->Prop} (ha:Words a) (la:a.length<=1099511627775) (hn:n<=32) (h:∀out,Words out->out.length=a.length+1->val out=val a*2^n->Q out):cL a (n:Int) Q:=by
 have hL:(a.length:Int)+1=((a.length+1:Nat):Int):=om
 unfold cL
 rw[hL]
 have hs:=nj hn
 have hpp:=h_ n
 have hqp:=h_ (32-n)
 generalize hp:(2:Int)^n=p at *
 generalize (2:Int)^(32-n)=q at *
 have hple:p<=4294967296:=by
  have:p*1<=p*q:=Int.mul_le_mul_of_nonneg_left om om
  omega
 have hdvd:p ∣ 4294967296:=⟨q,hs.symm⟩
 refine⟨by unfold rng;omega,mG om om,λy=>∃i:Nat,y.1=i/\i<=a.length/\y.2.length=a.length+1/\Words y.2/\(∀k,i<k->y.2.getD k 0=0)/\y.2.getD i 0<p/\pv y.2 (i+1)=pv a i*p,λy=>a.length-y.1.toNat,
  ⟨0,rfl,by omega,by simp[bG],Words.rep _,λk hk=>?_,?_,?_⟩,?_⟩
 ·show(List.replicate (a.length+1) (0:Int)).getD k 0=0
  rw[List.getD_eq_getElem?_getD,List.getElem?_replicate];split<;>rfl
 ·show(List.replicate (a.length+1) (0:Int)).getD 0 0<p
  simp;omega
 ·show pv (List.replicate (a.length+1) (0:Int)) 1=_
  rw[mw];simp[pv]
 rintro⟨x,out⟩ ⟨i,hx,hi,hlen,hw,hz,hlow,hpv⟩
 simp only at hx hi hlen hw hz hlow hpv
 subst hx
 have hxi:=ha i
 have hoi:=hw i
 refine condT (λhlt=>⟨⟨by omega,hlt⟩,⟨by omega,by omega⟩,?_⟩) (λhge=>?_)
 ·rw[gG,Int.toNat_natCast,hp]
  have hy0:0<=a.getD i 0*p:=Int.mul_nonneg hxi.1 om
  have hy1:a.getD i 0*p<4294967296*p:=Int.mul_lt_mul_of_pos_right hxi.2 hpp
  have hy2:4294967296*p<=4294967296*4294967296:=Int.mul_le_mul_of_nonneg_left hple om
  rw[wrap_u64_id hxi.1 om,wrap_u64_id hy0 om]
  refine ga ?_
  have hdy:p ∣ a.getD i 0*p:=⟨_,Int.mul_comm _ _⟩
  have hhi:a.getD i 0*p / 4294967296<p:=by
   rw[Int.ediv_lt_iff_lt_mul om]
   rw[Int.mul_comm p];exact hy1
  generalize hv:a.getD i 0*p=y at *
  refine⟨⟨by omega,by omega⟩,⟨by omega,by omega⟩,by unfold rng;omega,⟨by omega,by omega⟩,by unfold rng;omega,?_,by dsimp only;omega⟩
  have e1:(i:Int)+1=((i+1:Nat):Int):=om
  have e32:y / 2^Int.toNat 32=y / 4294967296:=rfl
  have hm:(y % 4294967296) % p=0:=by rw[Int.emod_emod_of_dvd _ hdvd];exact Int.emod_eq_zero_of_dvd hdy
  have hh0:0<=y / 4294967296:=om
  have hor:bits .or .u32 (out.getD i 0) (y % 4294967296)=y % 4294967296+out.getD i 0:=by
   refine ug n hoi.1 (by rw[hp];exact hlow) om (by rw[hp];exact hm) ?_
   obtain⟨z,hz'⟩:=Int.dvd_of_emod_eq_zero hm
   have:z<q:=by
    rcases Int.lt_or_le z q with h1 | h1
    ·exact h1
    ·have:p*q<=p*z:=Int.mul_le_mul_of_nonneg_left h1 om
     omega
   have:p*z<=p*(q-1):=Int.mul_le_mul_of_nonneg_left om om
   rw[Int.mul_sub,hs] at this
   omega
  rw[e1,gG,cX,cX,e32,wrap_u32,wrap_u32,hor]
  have hlo:y % 4294967296+out.getD i 0<4294967296:=by
   obtain⟨z,hz'⟩:=Int.dvd_of_emod_eq_zero hm
   have:z<q:=by
    rcases Int.lt_or_le z q with h1 | h1
    ·exact h1
    ·have:p*q<=p*z:=Int.mul_le_mul_of_nonneg_left h1 om
     omega
   have:p*z<=p*(q-1):=Int.mul_le_mul_of_nonneg_left om om
   rw[Int.mul_sub,hs] at this
   omega
  have hmod:y / 4294967296 % 4294967296=y / 4294967296:=om
  rw[hmod]
  refine⟨i+1,rfl,by omega,by simp[hlen],(hw.set _ om om).set _ hh0 om,λk hk=>?_,?_,?_⟩
  ·show((out.set i _).set (i+1) _).getD k 0=0
   rw[bR om,bR om]
   exact hz k om
  ·show((out.set i _).set (i+1) _).getD (i+1) 0<p
   rw[fK (by simp;omega)]
   exact hhi
  ·show pv ((out.set i _).set (i+1) _) (i+1+1)=_
   rw[mv (by simp;omega),mv om,pv,Int.pow_succ]
   rw[pv] at hpv
   have s4:=Int.add_mul (pv a i) (a.getD i 0*4294967296^i) p
   have s1:=jZ y (4294967296^i)
   have s2:=Int.add_mul (y % 4294967296) (out.getD i 0) (4294967296^i)
   have s3:a.getD i 0*4294967296^i*p=y*4294967296^i:=by rw[<-hv,Int.mul_assoc,Int.mul_comm _ p,<-Int.mul_assoc]
   omega
 ·obtain rfl:i=a.length:=om
  refine h out hw hlen ?_
  have a1:=ca hw
  have a2:=ca ha
  rw[hlen,hpv,<-a2] at a1
  have:((val a*2^n:Nat):Int)=(val a:Int)*p:=by rw[<-hp];simp
  have:(val out:Int)=((val a*2^n:Nat):Int):=by rw[this];exact a1
  omega
theorem lK {a:List Int} {n:Nat} {Q:List Int->Prop} (ha:Words a) (la:SM a) (hn:n<=32) (h:∀out,Words out->out.length=a.length->val out=val a / 2^n->Q out):eB a (n:Int) Q:=by
 unfold SM at la
 unfold eB
 have hs:=nj hn
 have hpp:=h_ n
 have hqp:=h_ (32-n)
 generalize hp:(2:Int)^n=p at *
 generalize (2:Int)^(32-n)=q at *
 have hdvd:p ∣ 4294967296:=⟨q,hs.symm⟩
 refine⟨mG om la,λy=>∃i:Nat,y.1=i/\i<=a.length/\y.2.length=a.length/\Words y.2/\pv y.2 i*p=pv a i-a.getD 0 0 % p+(a.getD i 0 % p)*4294967296^i,λy=>a.length-y.1.toNat,
  ⟨0,rfl,by omega,by simp[bG],Words.rep _,by simp[pv];omega⟩,?_⟩
 rintro⟨x,out⟩ ⟨i,hx,hi,hlen,hw,hpv⟩
 simp only at hx hi hlen hw hpv
 subst hx
 have h0:=ha i
 have h1:=ha (i+1)
 have e1:(i:Int)+1=((i+1:Nat):Int):=om
 refine condT (λhlt=>co ha ⟨by unfold rng;omega,?_⟩) (λhge=>?_)
 ·rw[e1]
  refine co ha ⟨⟨by omega,by omega⟩,⟨by omega,by omega⟩,by unfold rng;omega,?_,by dsimp only;omega⟩
  have e32:(2:Int)^Int.toNat 32=4294967296:=rfl
  rw[e32,Int.toNat_natCast,hp,wrap_u64_id om om,uf 32 h0.1 h0.2 om (by show _ % 4294967296=0;omega) om,cX,wrap_u32]
  generalize ha0:a.getD i 0=x0 at *
  generalize ha1:a.getD (i+1) 0=x1 at *
  have hx0:0<=x0 / p:=Int.ediv_nonneg h0.1 om
  have hx0':x0 / p<q:=by rw[Int.ediv_lt_iff_lt_mul hpp,Int.mul_comm,hs];exact h0.2
  have hm0:0<=x1 % p:=Int.emod_nonneg _ om
  have hm1:x1 % p<p:=Int.emod_lt_of_pos _ hpp
  have hdv:(x1*4294967296+x0) / p=x1*q+x0 / p:=by
   rw[<-hs,Int.mul_left_comm,Int.add_comm,Int.add_mul_ediv_left _ _ om,Int.add_comm]
  have hk:(x1*4294967296+x0) / p % 4294967296=(x1 % p)*q+x0 / p:=by
   have d1:x1=p*(x1 / p)+x1 % p:=(Int.mul_ediv_add_emod x1 p).symm
   have d2:x1*q+x0 / p=(x1 % p)*q+x0 / p+4294967296*(x1 / p):=by
    have:x1*q=(p*(x1 / p)+x1 % p)*q:=by rw[<-d1]
    rw[this,Int.add_mul,Int.mul_right_comm,hs];omega
   rw[hdv,d2,Int.add_mul_emod_self_left]
   refine Int.emod_eq_of_lt ?_ ?_
   ·have:=Int.mul_nonneg hm0 (Int.le_of_lt hqp);omega
   ·have:(x1 % p)*q<=(p-1)*q:=Int.mul_le_mul_of_nonneg_right om om
    rw[Int.sub_mul,hs] at this;omega
  rw[hk]
  have hq0:=Int.mul_nonneg hm0 (Int.le_of_lt hqp)
  have hq1:(x1 % p)*q<=(p-1)*q:=Int.mul_le_mul_of_nonneg_right om om
  rw[Int.sub_mul,hs] at hq1
  refine⟨i+1,rfl,by omega,by simp[hlen],hw.set _ om om,?_⟩
  show pv (out.set i (x1 % p*q+x0 / p)) (i+1)*p=pv a (i+1)-_+_
  rw[mv om,pv,Int.add_mul,hpv,ha0,ha1,Int.pow_succ]
  have d0:x0=p*(x0 / p)+x0 % p:=(Int.mul_ediv_add_emod x0 p).symm
  have s1:(x1 % p*q+x0 / p)*4294967296^i*p=x1 % p*(4294967296^i*4294967296)+(p*(x0 / p))*4294967296^i:=by
   rw[Int.add_mul,Int.add_mul]
   congr 1
   ·rw[<-hs,Int.mul_assoc,Int.mul_assoc,Int.mul_left_comm q,Int.mul_comm q p]
   ·rw[Int.mul_right_comm,Int.mul_comm (x0 / p)]
  have s2:x0*4294967296^i=(p*(x0 / p))*4294967296^i+x0 % p*4294967296^i:=by
   rw[<-Int.add_mul,<-d0]
  omega
 ·obtain rfl:i=a.length:=om
  refine h out hw hlen ?_
  have a1:=ca hw
  have a2:=ca ha
  rw[hlen] at a1
  rw[oo (Nat.le_refl a.length),Int.zero_emod,Int.zero_mul,<-a2,<-a1] at hpv
  have hr0:0<=a.getD 0 0 % p:=Int.emod_nonneg _ om
  have hr1:a.getD 0 0 % p<p:=Int.emod_lt_of_pos _ hpp
  have e:(val a:Int) / p=val out:=by
   have:(val a:Int)=p*val out+a.getD 0 0 % p:=by rw[Int.mul_comm];omega
   rw[this,Int.add_comm,Int.add_mul_ediv_left _ _ om,Int.ediv_eq_zero_of_lt hr0 hr1];omega
  have e2:((val a / 2^n:Nat):Int)=(val a:Int) / p:=by rw[<-hp];simp
  omega
theorem lJ {a:List Int} {b:Int} {Q:List Int->Int->Prop} (ha:Words a) (la:SM a) (hb0:0<b) (hb1:b<4294967296) (h:Q (lim (val a / b.toNat)) ((val a % b.toNat:Nat):Int)):eA a b Q:=by
 unfold SM at la
 unfold eA
 rw[wrap_u64_id om om]
 refine⟨mG om la,by unfold rng;omega,λy=>∃j:Nat,y.2.1=(j:Int)-1/\j<=a.length/\y.2.2.length=a.length/\Words y.2.2/\(∀k,k<j->y.2.2.getD k 0=0)/\0<=y.1/\y.1<b/\pv y.2.2 a.length*b+y.1*4294967296^j=pv a a.length-pv a j,
  λy=>(y.2.1+1).toNat,⟨a.length,rfl,by omega,by simp[bG],Words.rep _,λk hk=>?_,by omega,hb0,?_⟩,?_⟩
 ·show(List.replicate a.length (0:Int)).getD k 0=0
  rw[List.getD_eq_getElem?_getD,List.getElem?_replicate];split<;>rfl
 ·show pv (List.replicate a.length (0:Int)) a.length*b+0*_=_
  rw[mw];simp
 rintro⟨r,x,out⟩ ⟨j,hx,hj,hlen,hw,hz,hr0,hr1,hpv⟩
 simp only at hx hj hlen hw hz hr0 hr1 hpv
 subst hx
 have hj1:((j:Int)-1).toNat=j-1:=om
 refine condT (λhc=>⟨⟨by omega,by omega⟩,?_⟩) (λhc=>?_)
 ·obtain⟨i,rfl⟩:∃i,j=i+1:=⟨j-1,by omega⟩
  have ei:((i+1:Nat):Int)-1=(i:Int):=om
  have h0:=ha i
  have e32:(2:Int)^Int.toNat 32=4294967296:=rfl
  rw[ei,gG,e32,wrap_u64_id om om,wrap_u64_id om om,n9 32 h0.1 h0.2 om (by show _ % 4294967296=0;omega) om]
  refine ga ⟨by omega,⟨by omega,by omega⟩,by omega,by unfold rng;omega,?_,by dsimp only;omega⟩
  generalize hv:r*4294967296+a.getD i 0=v
  have hv0:0<=v:=om
  rw[Int.tdiv_eq_ediv_of_nonneg hv0,Int.tmod_eq_emod_of_nonneg hv0,cX]
  have hq0:0<=v / b:=Int.ediv_nonneg hv0 om
  have hq1:v / b<4294967296:=by
   rw[Int.ediv_lt_iff_lt_mul hb0,<-hv]
   have:r*4294967296<=(b-1)*4294967296:=Int.mul_le_mul_of_nonneg_right om om
   omega
  rw[wrap_u64_id hq0 om,wrap_u32]
  have hqm:v / b % 4294967296=v / b:=om
  rw[hqm]
  refine⟨i,rfl,by omega,by simp[hlen],hw.set _ hq0 hq1,λk hk=>?_,Int.emod_nonneg _ om,Int.emod_lt_of_pos _ hb0,?_⟩
  ·show(out.set i _).getD k 0=0
   rw[bR om];exact hz k om
  ·show pv (out.set i (v / b)) a.length*b+v % b*_=_
   rw[fM om a.length om,hz i om,Int.sub_zero,Int.add_mul]
   rw[pv,Int.pow_succ] at hpv
   have d0:v=b*(v / b)+v % b:=(Int.mul_ediv_add_emod v b).symm
   have s1:v / b*4294967296^i*b+v % b*4294967296^i=v*4294967296^i:=by
    rw[Int.mul_right_comm,<-Int.add_mul,Int.mul_comm (v / b),<-d0]
   have s2:v*4294967296^i=r*(4294967296^i*4294967296)+a.getD i 0*4294967296^i:=by
    rw[<-hv,Int.add_mul,Int.mul_assoc,Int.mul_comm 4294967296]
   omega
 ·obtain rfl:j=0:=om
  refine bu hw (by unfold SM;omega) ?_
  have a1:=ca hw
  have a2:=ca ha
  rw[hlen] at a1
  simp only[pv,Int.pow_zero,Int.mul_one,Int.sub_zero] at hpv
  rw[<-a1,<-a2] at hpv
  obtain⟨c,rfl⟩:∃c:Nat,b=c:=⟨b.toNat,by omega⟩
  rw[Int.toNat_natCast] at h
  have hq:val a / c=val out:=by
   have:val a=c*val out+r.toNat:=by
    have:((val a:Nat):Int)=((c*val out+r.toNat:Nat):Int):=by
     rw[Int.natCast_add,Int.natCast_mul,Int.mul_comm];omega
    omega
   rw[this,Nat.add_comm,Nat.add_mul_div_left _ _ om,Nat.div_eq_of_lt om];omega
  have hm:val a % c=r.toNat:=by
   have:val a=c*val out+r.toNat:=by
    have:((val a:Nat):Int)=((c*val out+r.toNat:Nat):Int):=by
     rw[Int.natCast_add,Int.natCast_mul,Int.mul_comm];omega
    omega
   rw[this,Nat.add_comm,Nat.add_mul_mod_self_left,Nat.mod_eq_of_lt om]
  rw[hq,hm] at h
  rw[wrap_u32]
  have e:r % 4294967296=((r.toNat:Nat):Int):=om
  rw[e]
  exact h
end Go.Gg
namespace Go.Gg
theorem kg {n:Int} {Q:List Int->Prop} (h1:n<=9223372036854775807) (h:Q (lim n.toNat)):gd n Q:=by
 refine condT (λhc=>?_) (λhc=>?_)
 ·have:n.toNat=0:=om
  rw[this,cw] at h;exact h
 ·have e32:(2:Int)^Int.toNat 32=4294967296:=rfl
  rw[e32,wrap_u32,wrap_u32]
  have hw:Words [n % 4294967296,n / 4294967296 % 4294967296]:=(Words.nil.cons om om).cons om om
  refine bu hw (by simp[SM]) ?_
  have hv:val [n % 4294967296,n / 4294967296 % 4294967296]=n.toNat:=by
   rw[iW hw,iW hw.tail,jV];omega
  rw[hv];exact h
theorem rY {a:List Int} (ha:Words a) {i:Nat} (hz:∀k,i<k->k<a.length->a.getD k 0=0) (hi:i<a.length) (hn:a.getD i 0≠0):(bS (val a):Int)=32*i+bS (a.getD i 0).toNat:=by
 have h0:=ha i
 have a1:=ca ha
 rw[lS (j:=i+1) a.length hi (λk h1 h2=>hz k om h2),pv] at a1
 obtain⟨b1,b2⟩:=bz ha i
 obtain⟨x,hx⟩:∃x:Nat,a.getD i 0=x:=⟨(a.getD i 0).toNat,by omega⟩
 rw[hx] at a1 hn h0 ⊢
 rw[Int.toNat_natCast]
 have hx0:x≠0:=om
 have c1:=lZ (n:=x)
 have c2:=jn hx0
 have hb:bS x≠0:=by unfold bS;rw[if_neg hx0];omega
 have ew:((4294967296^i:Nat):Int)=(4294967296:Int)^i:=by simp
 have e1:val a=(pv a i).toNat+x*4294967296^i:=by
  have:(val a:Int)=(((pv a i).toNat+x*4294967296^i:Nat):Int):=by
   rw[a1,Int.natCast_add,Int.natCast_mul,ew];omega
  omega
 have hlt:(pv a i).toNat<4294967296^i:=om
 have hpw:(4294967296:Nat)^i=2^(32*i):=by rw[Nat.pow_mul]
 have:bS (val a)=32*i+bS x:=by
  refine nK ?_ (λ_=>?_)
  ·rw[e1,Nat.pow_add,<-hpw]
   have:(x+1)*4294967296^i<=2^bS x*4294967296^i:=Nat.mul_le_mul_right _ c1
   rw[Nat.add_mul,Nat.mul_comm (2^bS x)] at this
   omega
  ·have e:32*i+bS x-1=32*i+(bS x-1):=om
   rw[e1,e,Nat.pow_add,<-hpw]
   have:2^(bS x-1)*4294967296^i<=x*4294967296^i:=Nat.mul_le_mul_right _ c2
   rw[Nat.mul_comm (2^(bS x-1))] at this
   omega
 omega
theorem mF {a:List Int} {Q:Int->Prop} (ha:Words a) (la:SM a) (h:Q (bS (val a))):gy a Q:=by
 unfold SM at la
 refine⟨by unfold rng;omega,λx=>∃j:Nat,x=(j:Int)-1/\j<=a.length/\∀k,j<=k->k<a.length->a.getD k 0=0,λx=>(x+1).toNat,⟨a.length,rfl,by omega,λk h1 h2=>om⟩,?_⟩
 rintro _ ⟨j,rfl,hj,hz⟩
 refine condT (λhc=>⟨⟨by omega,by omega⟩,?_⟩) (λhc=>?_)
 ·obtain⟨i,rfl⟩:∃i,j=i+1:=⟨j-1,by omega⟩
  have ei:((i+1:Nat):Int)-1=(i:Int):=om
  rw[ei,gG]
  have h0:=ha i
  refine gE (λhn=>⟨by unfold rng;omega,⟨by omega,by omega⟩,?_⟩) (λhe=>⟨by unfold rng;omega,⟨i,rfl,by omega,λk h1 h2=>?_⟩,by dsimp only;omega⟩)
  ·have hb:=rY ha (λk h1 h2=>hz k om h2) om hn
   obtain⟨x,hx⟩:∃x:Nat,a.getD i 0=x:=⟨(a.getD i 0).toNat,by omega⟩
   rw[hx] at hb ⊢
   rw[Int.toNat_natCast] at hb
   have h32:=k9 (x:=x) om
   refine qT om ⟨by unfold rng;omega,?_⟩
   rw[<-hb];exact h
  ·by_cases hk:k=i
   ·subst hk;exact he
   ·exact hz k om h2
 ·obtain rfl:j=0:=om
  have:val a=0:=by
   have a1:=ca ha
   rw[lS (j:=0) a.length om (λk h1 h2=>hz k h1 h2)] at a1
   simp only[pv] at a1;omega
  rw[this,rX] at h
  exact h
theorem dt {l:List Int} {j i:Nat}:(l.drop j).getD i 0=l.getD (j+i) 0:=by
 rw[List.getD_eq_getElem?_getD,List.getD_eq_getElem?_getD,List.getElem?_drop]
theorem lx {l:List Int} {o i:Nat} {x:Int} (h:o+i<l.length):pv ((l.set (o+i) x).drop o) (i+1)=pv (l.drop o) i+x*4294967296^i:=by
 rw[pv,dt,fK h]
 congr 1
 exact h9 i (λk hk=>by rw[dt,dt,bR om])
theorem mD {u v:List Int} {o n:Nat} {g:Int} {Q:List Int->Bool->Prop} (hu:Words u) (hv:Words v) (lu:SM u) (ho:o+n<=u.length) (hn:v.length<n) (hg0:0<=g) (hg1:g<4294967296)
  (h:∀(w:List Int) (b:Int),Words w->w.length=u.length->(∀k,k<o\/o+n<=k->w.getD k 0=u.getD k 0)->(b=0\/b=1)->pv (w.drop o) n=pv (u.drop o) n-g*val v+b*4294967296^n->Q w (b == 1)) :
  gv u o n v g Q:=by
 unfold SM at lu
 refine⟨λy=>∃i:Nat,y.2.2.1=i/\i<=n/\y.2.2.2.length=u.length/\Words y.2.2.2/\(∀k,k<o\/o+i<=k->y.2.2.2.getD k 0=u.getD k 0)/\0<=y.1/\y.1<4294967296/\0<=y.2.1/\y.2.1<=1/\0<=g*pv v i-y.1*4294967296^i/\g*pv v i-y.1*4294967296^i<4294967296^i/\
   pv (y.2.2.2.drop o) i=pv (u.drop o) i-(g*pv v i-y.1*4294967296^i)+y.2.1*4294967296^i,λy=>n-y.2.2.1.toNat,
  ⟨0,rfl,by omega,rfl,hu,λ_ _=>rfl,Int.le_refl 0,by show(0:Int)<4294967296;omega,Int.le_refl 0,by show(0:Int)<=1;omega,by simp[pv],by simp[pv],by simp[pv]⟩,?_⟩
 rintro⟨c,b,x,w⟩ ⟨i,hx,hi,hlen,hw,hz,hc0,hc1,hb0,hb1,hl0,hl1,hpv⟩
 simp only at hx hi hlen hw hz hc0 hc1 hb0 hb1 hl0 hl1 hpv
 subst hx
 have hvi:=hv i
 have hwi:=hw (o+i)
 have eoi:(o:Int)+(i:Int)=((o+i:Nat):Int):=om
 refine condT (λhlt=>co hv ?_) (λhge=>?_)
 ·have hm0:0<=g*v.getD i 0:=Int.mul_nonneg hg0 hvi.1
  have hm1:g*v.getD i 0<=4294967295*4294967295:=Int.mul_le_mul om om hvi.1 om
  rw[wrap_u64_id hm0 om,wrap_u64_id om om]
  refine ga ⟨⟨by omega,hlt⟩,by omega,?_⟩
  rw[eoi,gG]
  generalize hc':c+g*v.getD i 0=d at *
  rw[wrap_u64_id hwi.1 om,wrap_u32,wrap_u64_id (m:=d % 4294967296) om om]
  obtain⟨q1,q2,q3⟩:=oR (w.getD (o+i) 0) (d % 4294967296) b hwi om ⟨hb0,hb1⟩
  refine ga ⟨⟨by omega,hlt⟩,by omega,by unfold rng;omega,?_,by dsimp only;omega⟩
  generalize IntKind.u64.wrap (IntKind.u64.wrap (w.getD (o+i) 0-d % 4294967296)-b)=e at *
  have e63:e / 2^Int.toNat 63=e / 9223372036854775808:=rfl
  have e32:d / 2^Int.toNat 32=d / 4294967296:=rfl
  rw[e63,e32,cX,wrap_u32]
  have hP:=ft i
  have p1:pv (u.drop o) (i+1)=pv (u.drop o) i+w.getD (o+i) 0*4294967296^i:=by rw[pv,dt,hz (o+i) om]
  have p2:g*pv v (i+1)=g*pv v i+g*v.getD i 0*4294967296^i:=by rw[pv,Int.mul_add,Int.mul_assoc]
  have p3:=Int.pow_succ (4294967296:Int) i
  have p0:=lx (l:=w) (o:=o) (i:=i) (x:=e % 4294967296) om
  generalize (4294967296:Int)^i=P at *
  have s1:=jZ d P
  have s3:d*P=c*P+g*v.getD i 0*P:=by rw[<-hc',Int.add_mul]
  have s5:d % 4294967296*P<=4294967295*P:=Int.mul_le_mul_of_nonneg_right om om
  have s6:0<=d % 4294967296*P:=Int.mul_nonneg om om
  refine⟨i+1,rfl,by omega,by simp[hlen],hw.set _ om om,λk hk=>?_,by show 0<=d / 4294967296;omega,by show d / 4294967296<4294967296;omega,q2,q3,?_,?_,?_⟩
  ·show(w.set (o+i) _).getD k 0=_
   rw[bR om];exact hz k om
  ·show 0<=g*pv v (i+1)-d / 4294967296*4294967296^(i+1)
   rw[p2,p3];omega
  ·show g*pv v (i+1)-d / 4294967296*4294967296^(i+1)<4294967296^(i+1)
   rw[p2,p3];omega
  ·show pv ((w.set (o+i) (e % 4294967296)).drop o) (i+1)=pv (u.drop o) (i+1)-(g*pv v (i+1)-d / 4294967296*4294967296^(i+1))+e / 9223372036854775808*4294967296^(i+1)
   rw[p0,hpv,p1,p2,p3]
   have s0:e % 4294967296=w.getD (o+i) 0-d % 4294967296-b+4294967296*(e / 9223372036854775808):=om
   rw[s0]
   generalize e / 9223372036854775808=b' at *
   have s4:(w.getD (o+i) 0-d % 4294967296-b+4294967296*b')*P=w.getD (o+i) 0*P-d % 4294967296*P-b*P+b'*(P*4294967296):=by
    rw[Int.add_mul,Int.sub_mul,Int.sub_mul,Int.mul_comm 4294967296 b',Int.mul_assoc b',Int.mul_comm 4294967296 P]
   rw[s4]
   generalize d / 4294967296=d' at *
   generalize d % 4294967296=d'' at *
   clear q1 q2 q3 s0 s4 s5 s6 hpv
   omega
 ·obtain rfl:i=n:=om
  refine h w b hw hlen hz om ?_
  have a1:=gb hv (i:=i) om
  have hc:c=0:=by
   have hv1:=gb hv (i:=i-1) om
   have hb':=(bz hv (i-1)).2
   have hw0:=bz hw 0
   obtain⟨m,rfl⟩:∃m,i=m+1:=⟨i-1,by omega⟩
   rw[Nat.add_sub_cancel] at hv1 hb'
   have hP:=ft m
   rw[Int.pow_succ] at hpv
   have hgv:g*pv v (m+1)<=4294967295*(4294967296^m-1):=by
    rw[<-a1,hv1]
    exact Int.mul_le_mul om om (bz hv m).1 om
   rw[Int.pow_succ] at hl0
   generalize (4294967296:Int)^m=P at *
   rcases Int.lt_or_le 0 c with hc | hc
   ·have:1*(P*4294967296)<=c*(P*4294967296):=Int.mul_le_mul_of_nonneg_right om om
    omega
   ·omega
  subst hc
  rw[a1]
  rw[hpv];omega
theorem mE {u v:List Int} {o n:Nat} {Q:List Int->Prop} (hu:Words u) (hv:Words v) (lu:SM u) (ho:o+n<=u.length) (hn:v.length<=n)
  (h:∀(w:List Int) (c:Int),Words w->w.length=u.length->(∀k,k<o\/o+n<=k->w.getD k 0=u.getD k 0)->(c=0\/c=1)->pv (w.drop o) n+c*4294967296^n=pv (u.drop o) n+val v->Q w) :
  gx u o n v Q:=by
 unfold SM at lu
 refine⟨λy=>∃i:Nat,y.2.1=i/\i<=n/\y.2.2.length=u.length/\Words y.2.2/\(∀k,k<o\/o+i<=k->y.2.2.getD k 0=u.getD k 0)/\0<=y.1/\y.1<=1/\
   pv (y.2.2.drop o) i+y.1*4294967296^i=pv (u.drop o) i+pv v i,λy=>n-y.2.1.toNat,
  ⟨0,rfl,by omega,rfl,hu,λ_ _=>rfl,Int.le_refl 0,by show(0:Int)<=1;omega,by simp[pv]⟩,?_⟩
 rintro⟨c,x,w⟩ ⟨i,hx,hi,hlen,hw,hz,hc0,hc1,hpv⟩
 simp only at hx hi hlen hw hz hc0 hc1 hpv
 subst hx
 have hvi:=hv i
 have hwi:=hw (o+i)
 have eoi:(o:Int)+(i:Int)=((o+i:Nat):Int):=om
 refine condT (λhlt=>⟨⟨by omega,hlt⟩,by omega,v.getD i 0,co hv rfl,⟨by omega,hlt⟩,by omega,?_⟩) (λhge=>?_)
 ·rw[eoi,gG,wrap_u64_id hwi.1 om,wrap_u64_id (m:=w.getD (o+i) 0+v.getD i 0) om om,wrap_u64_id om om]
  refine ga ⟨by unfold rng;omega,?_,by dsimp only;omega⟩
  have e32:∀d:Int,d / 2^Int.toNat 32=d / 4294967296:=λ_=>rfl
  rw[e32,cX,wrap_u32]
  generalize hd:c+(w.getD (o+i) 0+v.getD i 0)=d
  refine⟨i+1,rfl,by omega,by simp[hlen],hw.set _ om om,λk hk=>?_,by show 0<=d / 4294967296;omega,by show d / 4294967296<=1;omega,?_⟩
  ·show(w.set (o+i) _).getD k 0=_
   rw[bR om];exact hz k om
  ·show pv ((w.set (o+i) (d % 4294967296)).drop o) (i+1)+d / 4294967296*4294967296^(i+1)=pv (u.drop o) (i+1)+pv v (i+1)
   have p0:=lx (l:=w) (o:=o) (i:=i) (x:=d % 4294967296) om
   have p1:pv (u.drop o) (i+1)=pv (u.drop o) i+w.getD (o+i) 0*4294967296^i:=by rw[pv,dt,hz (o+i) om]
   have p2:pv v (i+1)=pv v i+v.getD i 0*4294967296^i:=by rw[pv]
   rw[p0,p1,p2,Int.pow_succ]
   have s1:=jZ d (4294967296^i)
   have s3:d*4294967296^i=c*4294967296^i+(w.getD (o+i) 0*4294967296^i+v.getD i 0*4294967296^i):=by rw[<-hd,Int.add_mul,Int.add_mul]
   omega
 ·obtain rfl:i=n:=om
  have a1:=gb hv (i:=i) om
  exact h w c hw hlen hz om (by rw[a1];exact hpv)
end Go.Gg
namespace Go.Gg
theorem iq {a b c:Nat} (h:a+b=c):(2:Int)^a*2^b=2^c:=by rw[<-Int.pow_add,h]
theorem ph {V P B top nx vl head th pl g:Int} (hV:V=(top*4294967296+nx)*B+vl) (hvl:0<=vl) (hP:P=(head*4294967296+th)*B+pl) (hpl:pl<B) (hB:0<B) (hg:0<=g)
  (h:head*4294967296+th<g*(top*4294967296+nx)):P<g*V:=by
 have h1:(head*4294967296+th+1)*B<=g*(top*4294967296+nx)*B:=Int.mul_le_mul_of_nonneg_right om om
 have h2:0<=g*vl:=Int.mul_nonneg hg hvl
 rw[hV,Int.mul_add,<-Int.mul_assoc]
 rw[Int.add_mul] at h1
 omega
theorem pi {V P B top nx vl head th pl g:Int} (hV:V=(top*4294967296+nx)*B+vl) (hvl0:0<=vl) (hvl:vl<B) (hP:P=(head*4294967296+th)*B+pl) (hpl:0<=pl) (hg0:0<=g) (hg:g<4294967296) (hVB:4294967296*B<=V)
  (h:g*(top*4294967296+nx)<=head*4294967296+th):(g-1)*V<=P:=by
 have h1:g*(top*4294967296+nx)*B<=(head*4294967296+th)*B:=Int.mul_le_mul_of_nonneg_right h om
 have h2:g*vl<=4294967296*B:=Int.mul_le_mul om om hvl0 om
 rw[Int.sub_mul,hV,Int.mul_add,<-Int.mul_assoc]
 rw[<-hV]
 omega
theorem i5 {l:List Int} {i:Nat}:∀n,pv l (i+n)=pv l i+pv (l.drop i) n*4294967296^i
 | 0=>by simp[pv]
 | n+1=>by
  rw[<-Nat.add_assoc,pv,i5 n,pv,dt,Int.add_mul,Int.pow_add,Int.mul_assoc (l.getD (i+n) 0),Int.mul_comm (4294967296^n)]
  omega
theorem n7 {l m:List Int} {i n:Nat} (h:∀k,k<i\/i+n<=k->l.getD k 0=m.getD k 0):∀M,i+n<=M->pv l M-pv m M=(pv (l.drop i) n-pv (m.drop i) n)*4294967296^i
 | 0,hM=>by
  have h1:i=0:=om
  have h2:n=0:=om
  subst h1 h2
  simp[pv]
 | M+1,hM=>by
  by_cases he:i+n=M+1
  ·rw[<-he,i5,i5,h9 i (λk hk=>h k (.inl hk)),Int.sub_mul];omega
  ·rw[pv,pv,h M (.inr om)]
   have:=n7 h M om
   omega
theorem qS {n:Nat} (h:n≠0):(lim n).getD ((lim n).length-1) 0≠0:=by
 induction n using Nat.strongRecOn with
 | _ n ih=>
  rw[dA om]
  simp only[List.length_cons,Nat.add_sub_cancel]
  by_cases h0:n / 4294967296=0
  ·rw[h0,cw];simp;omega
  ·have h1:=ih _ (Nat.div_lt_self om om) h0
   have h2:(lim (n / 4294967296)).length≠0:=by rw[dA om];simp
   obtain⟨k,hk⟩:∃k,(lim (n / 4294967296)).length=k+1:=⟨_,(Nat.succ_pred_eq_of_ne_zero h2).symm⟩
   rw[hk] at h1 ⊢
   simpa using h1
theorem p' {top nx hd1 hd2 th V P B vl pl:Int} {next3:Int->Prop} {G1 G2 G3:Prop} (hG1:G1) (hG2:G2) (hG3:G3) (htop0:2147483648<=top) (htop:top<4294967296) (hnx:0<=nx/\nx<4294967296) (h1:0<=hd1/\hd1<=top) (h2:0<=hd2/\hd2<4294967296) (h3:0<=th/\th<4294967296)
  (hV:V=(top*4294967296+nx)*B+vl) (hvl:0<=vl/\vl<B) (hP:P=((hd1*4294967296+hd2)*4294967296+th)*B+pl) (hpl:0<=pl/\pl<B) (hB:0<B) (hPV:P<V*4294967296)
  (hn:∀g,0<=g->g<4294967296->P<(g+1)*V->(g-1)*V<=P->next3 g) :
  aU (σ:=Int×Int) (IntKind.u64.wrap (Int.tdiv (hd1*4294967296+hd2) top),Int.tmod (hd1*4294967296+hd2) top) λ⟨guess2,rest⟩ next4=>
   b7 (α:=Unit) (λnext5=>ae (decide (4294967296<=guess2)) (next5 ()) (G1/\G2/\G3/\ae (decide (bits .or .u64 (IntKind.u64.wrap (rest*4294967296)) th<IntKind.u64.wrap (guess2*nx))) (next5 ()) (next3 guess2)))
    λ_=>fp (IntKind.u64.wrap (rest+top)) λrest1=>ae (decide (4294967296<=rest1)) (next3 (IntKind.u64.wrap (guess2-1))) (next4 (IntKind.u64.wrap (guess2-1),rest1)):=by
 have hhd0:0<=hd1*4294967296+hd2:=om
 have hVB:4294967296*B<=V:=by
  have:4294967296*B<=(top*4294967296+nx)*B:=Int.mul_le_mul_of_nonneg_right om om
  omega
 generalize hhd:hd1*4294967296+hd2=head at *
 have hhead:head<=top*4294967296+4294967295:=om
 have hq0:0<=head / top:=Int.ediv_nonneg hhd0 om
 have hr0:0<=head % top:=Int.emod_nonneg _ om
 have hr1:head % top<top:=Int.emod_lt_of_pos _ om
 have hde:head=top*(head / top)+head % top:=(Int.mul_ediv_add_emod head top).symm
 have hqu:head / top<4294967298:=by
  rw[Int.ediv_lt_iff_lt_mul om];omega
 rw[Int.tdiv_eq_ediv_of_nonneg hhd0,Int.tmod_eq_emod_of_nonneg hhd0,wrap_u64_id hq0 om]
 refine⟨λy=>0<=y.1/\y.1<4294967298/\0<=y.2/\y.2<4294967296/\head=y.1*top+y.2/\P<(y.1+1)*V,λy=>y.1.toNat,⟨hq0,hqu,hr0,by show head % top<_;omega,by show head=head / top*top+head % top;rw[Int.mul_comm];exact hde,?_⟩,?_⟩
 ·show P<(head / top+1)*V
  refine ph hV hvl.1 hP hpl.2 hB om ?_
  have a1:(head / top+1)*top=top*(head / top)+top:=by rw[Int.add_mul,Int.mul_comm];omega
  have a2:(head / top+1)*(top*4294967296+nx)=(head / top+1)*top*4294967296+(head / top+1)*nx:=by rw[Int.mul_add,Int.mul_assoc]
  have a3:0<=(head / top+1)*nx:=Int.mul_nonneg om hnx.1
  omega
 rintro⟨g,r⟩ ⟨hg0,hg1,hr0,hr1,hh,hU⟩
 simp only at hg0 hg1 hr0 hr1 hh hU
 have hexp:g*(top*4294967296+nx)=(g*top)*4294967296+g*nx:=by rw[Int.mul_add,Int.mul_assoc]
 refine⟨λ_=>P<g*V,condT (λhc=>?_) (λhc=>⟨hG1,hG2,hG3,?_⟩),λ_ hlt=>?_⟩
 ·have:V*4294967296<=g*V:=by rw[Int.mul_comm V];exact Int.mul_le_mul_of_nonneg_right hc om
  omega
 ·have hgn0:0<=g*nx:=Int.mul_nonneg hg0 hnx.1
  have hgn1:g*nx<=4294967295*4294967295:=Int.mul_le_mul om om hnx.1 om
  rw[wrap_u64_id (m:=r*4294967296) om om,wrap_u64_id hgn0 om,n9 32 h3.1 h3.2 om (by show _ % 4294967296=0;omega) om]
  refine condT (λhgt=>?_) (λhle=>?_)
  ·exact ph hV hvl.1 hP hpl.2 hB hg0 om
  ·exact hn g hg0 om hU (pi hV hvl.1 hvl.2 hP hpl.1 hg0 om hVB om)
 ·have hg1':1<=g:=by
   rcases Int.lt_or_le g 1 with h | h
   ·have:g=0:=om
    subst this
    have hP0:0<=P:=by
     rw[hP]
     have:0<=(head*4294967296+th)*B:=Int.mul_nonneg om om
     omega
    simp at hlt;omega
   ·exact h
  rw[wrap_u64_id (m:=r+top) om om,wrap_u64_id (m:=g-1) om om]
  have hsub:(g-1)*top=g*top-top:=by rw[Int.sub_mul];omega
  have hexp2:(g-1)*(top*4294967296+nx)=((g-1)*top)*4294967296+(g-1)*nx:=by rw[Int.mul_add,Int.mul_assoc]
  refine ga (condT (λhc=>?_) (λhc=>⟨⟨by show 0<=g-1;omega,by show g-1<_;omega,by show 0<=r+top;omega,by show r+top<_;omega,by show head=(g-1)*top+(r+top);omega,by show P<(g-1+1)*V;rw[Int.sub_add_cancel];exact hlt⟩,by show(g-1).toNat<g.toNat;omega⟩))
  have hgW:g-1<4294967296:=by
   rcases Int.lt_or_le (g-1) 4294967296 with h | h
   ·exact h
   ·have:4294967296*top<=(g-1)*top:=Int.mul_le_mul_of_nonneg_right h om
    omega
  have hgn1:(g-1)*nx<=4294967295*4294967295:=Int.mul_le_mul om om hnx.1 om
  refine hn (g-1) om hgW (by rw[Int.sub_add_cancel];exact hlt) (pi hV hvl.1 hvl.2 hP hpl.1 om hgW hVB om)
set_option maxHeartbeats 2000000 in
theorem gV {a b:List Int} {Q:List Int->List Int->Option Int->Prop} (ha:Words a) (hb:Words b) (la:a.length<=1099511627774) (lb:b.length<=1099511627774)
  (h0:val b=0->Q [] [] (some 8)) (h:val b≠0->Q (lim (val a / val b)) (lim (val a % val b)) none):eo a b Q:=by
 refine bu ha (by unfold SM;omega) (bu hb (by unfold SM;omega) ?_)
 have b1:=dS ha
 have b2:=dS hb
 have w1:=aF (val a)
 have w2:=aF (val b)
 have v1:=bf (val a)
 have v2:=bf (val b)
 refine cS (λhc=>?_) (λhc=>?_)
 ·have:(lim (val b)).length=0:=om
  have:lim (val b)=[]:=List.eq_nil_of_length_eq_zero this
  rw[this,jV] at v2
  exact h0 v2.symm
 have hB:val b≠0:=by intro hh;rw[hh,cw] at hc;exact hc rfl
 replace h:=h hB
 clear h0
 refine fG w1 w2 (by unfold SM;omega) (by unfold SM;omega) ?_
 rw[v1,v2]
 refine condT (λhlt=>?_) (λhge=>cS (λh1=>?_) (λh1=>?_))
 ·have:=kq.1 hlt
  rw[Nat.div_eq_of_lt this,Nat.mod_eq_of_lt this,cw] at h
  exact h
 ·
  have hl1:(lim (val b)).length=1:=om
  have hw0:=w2 0
  have hbv:(val b:Int)=(lim (val b)).getD 0 0:=by
   have:=ca w2
   rw[v2,hl1] at this
   simpa[pv] using this
  refine⟨⟨by omega,by omega⟩,?_⟩
  have e0:at' (lim (val b)) 0=(val b:Int):=by rw[hbv];rfl
  rw[e0]
  have hm:val a % val b<val b:=Nat.mod_lt _ om
  refine lJ w1 (by unfold SM;omega) om om ?_
  rw[v1,Int.toNat_natCast,go (by unfold rng;omega)]
  refine kg om ?_
  rw[Int.toNat_natCast]
  exact h
 obtain⟨m,hm⟩:∃m,(lim (val b)).length=m+2:=⟨(lim (val b)).length-2,by omega⟩
 have hge':val b<=val a:=by
  rcases Nat.lt_or_ge (val a) (val b) with hh | hh
  ·exact absurd (kq.2 hh) hge
  ·exact hh
 have hlen:m+2<=(lim (val a)).length:=by rw[<-hm];exact c7 hge'
 generalize hA:val a=A at *
 generalize hBv:val b=B at *
 have htop:=qS hB
 have hbd:(val (lim B):Int)=_:=ca w2
 rw[v2] at hbd
 have hAp:(A:Int)<4294967296^(lim A).length:=by
  have:=(bz w1 (lim A).length).2
  have e:=ca w1
  rw[v1] at e;omega
 generalize hla:lim A=al at *
 generalize hlb:lim B=bl at *
 rw[hm] at htop hbd
 have e21:m+2-1=m+1:=om
 rw[e21] at htop
 have hwt:=w2 (m+1)
 have hml:(bl.length:Int)-1=((m+1:Nat):Int):=om
 rw[hml]
 obtain⟨tp,htp⟩:∃x:Nat,bl.getD (m+1) 0=x:=⟨(bl.getD (m+1) 0).toNat,by omega⟩
 refine⟨by unfold rng;omega,⟨by omega,by omega⟩,?_⟩
 rw[gG,htp]
 rw[htp] at htop hwt
 have htp0:tp≠0:=om
 have c1:=lZ (n:=tp)
 have c2:=jn htp0
 have c3:=k9 (x:=tp) om
 have c4:bS tp≠0:=by unfold bS;rw[if_neg htp0];omega
 refine vG om ?_
 obtain⟨s,hs⟩:∃s,32-bS tp=s:=⟨_,rfl⟩
 rw[hs]
 have hs31:s<=31:=om
 refine i7 w2 om om (λr4 hr4 hr4l hr4v=>?_)
 rw[hm] at hr4l
 rw[v2] at hr4v
 refine⟨⟨by omega,by omega,by omega⟩,ga ?_⟩
 have hvl:(cU r4 0 (bl.length:Int))=r4.take (m+2):=by
  show(r4.drop 0).take (((bl.length:Nat):Int).toNat-0)=_
  rw[Int.toNat_natCast,hm];rfl
 rw[hvl]
 have hvlen:(r4.take (m+2)).length=m+2:=by rw[List.length_take,hr4l];omega
 have hPm:=ft m
 have ew:(4294967296:Int)^(m+2)=4294967296^m*4294967296*4294967296:=by rw[Int.pow_succ,Int.pow_succ]
 have ew1:(4294967296:Int)^(m+1)=4294967296^m*4294967296:=Int.pow_succ ..
 have hbd2:(B:Int)=pv bl m+bl.getD m 0*4294967296^m+tp*(4294967296^m*4294967296):=by rw[hbd,pv,pv,htp,ew1]
 have hbm:=bz w2 m
 have hbm1:=w2 m
 have hlow:bl.getD m 0*4294967296^m<=4294967295*4294967296^m:=Int.mul_le_mul_of_nonneg_right om om
 have hlow0:0<=bl.getD m 0*4294967296^m:=Int.mul_nonneg hbm1.1 om
 have hps:=h_ s
 have hts:(tp:Int)*2^s<4294967296/\2147483648<=(tp:Int)*2^s:=by
  have e1:(2:Int)^(bS tp)*2^s=4294967296:=iq (c:=32) om
  have e2:(2:Int)^(bS tp-1)*2^s=2147483648:=iq (c:=31) om
  have f1:(tp:Int)+1<=2^(bS tp):=by exact_mod_cast c1
  have f2:(2:Int)^(bS tp-1)<=tp:=by exact_mod_cast c2
  have g1:((tp:Int)+1)*2^s<=2^(bS tp)*2^s:=Int.mul_le_mul_of_nonneg_right f1 om
  have g2:(2:Int)^(bS tp-1)*2^s<=tp*2^s:=Int.mul_le_mul_of_nonneg_right f2 om
  rw[Int.add_mul] at g1
  omega
 have hVval:((val r4:Nat):Int)=(B:Int)*2^s:=by rw[hr4v];simp
 have hr4p:=ca hr4
 rw[hr4l] at hr4p
 have hVlt:(val r4:Int)<4294967296^(m+2):=by
  have k1:(B:Int)+1<=(tp+1)*(4294967296^m*4294967296):=by rw[Int.add_mul];omega
  have k2:((B:Int)+1)*2^s<=((tp+1)*(4294967296^m*4294967296))*2^s:=Int.mul_le_mul_of_nonneg_right k1 om
  have k3:(((tp:Int)+1)*2^s)<=4294967296:=by
   have f1:(tp:Int)+1<=2^(bS tp):=by exact_mod_cast c1
   have e1:(2:Int)^(bS tp)*2^s=4294967296:=iq (c:=32) om
   have g1:((tp:Int)+1)*2^s<=2^(bS tp)*2^s:=Int.mul_le_mul_of_nonneg_right f1 om
   omega
  have k4:(((tp:Int)+1)*2^s)*(4294967296^m*4294967296)<=4294967296*(4294967296^m*4294967296):=Int.mul_le_mul_of_nonneg_right k3 om
  rw[Int.mul_right_comm] at k2
  rw[Int.add_mul] at k2
  rw[hVval,ew]
  omega
 have hVge:2147483648*(4294967296^m*4294967296)<=(val r4:Int):=by
  have k1:(tp:Int)*(4294967296^m*4294967296)<=B:=om
  have k2:(tp:Int)*(4294967296^m*4294967296)*2^s<=B*2^s:=Int.mul_le_mul_of_nonneg_right k1 om
  have k3:2147483648*(4294967296^m*4294967296)<=(tp:Int)*2^s*(4294967296^m*4294967296):=Int.mul_le_mul_of_nonneg_right hts.2 om
  rw[Int.mul_right_comm] at k2
  omega
 have hVp:(val r4:Int)=pv (r4.take (m+2)) (m+2):=by
  rw[hr4p] at hVlt ⊢
  rw[qI (Nat.le_refl _)]
  exact lT hr4 om hVlt
 have hwv:Words (r4.take (m+2)):=hr4.take _
 have hvv:val (r4.take (m+2))=val r4:=by
  have:=ca hwv
  rw[hvlen,<-hVp] at this;omega
 generalize hv:r4.take (m+2)=v at *
 generalize hVV:val r4=V at *
 clear hr4 hr4l hr4p hvl
 refine i7 w1 om om (λu hu hul huv=>?_)
 rw[v1] at huv
 have hvl1:(v.length:Int)-1=((m+1:Nat):Int):=om
 have hvl2:(v.length:Int)-2=(m:Int):=om
 obtain⟨K,hK⟩:∃K,al.length=K+(m+2):=⟨al.length-(m+2),by omega⟩
 have hkl:(u.length:Int)-(v.length:Int)=((K+1:Nat):Int):=om
 rw[hvl1,hvl2,hkl]
 refine⟨by unfold rng;omega,⟨by omega,by omega⟩,by unfold rng;omega,⟨by omega,by omega⟩,by unfold rng;omega,mG om om,by unfold rng;omega,ga ?_⟩
 rw[Int.toNat_natCast]
 have hU:(val u:Int)<V*4294967296^(K+1):=by
  have k0:((val u:Nat):Int)=(A:Int)*2^s:=by rw[huv];simp
  have k1:(2:Int)^s<=2147483648:=by
   have:(2:Int)^s*2^(31-s)=2147483648:=iq (c:=31) om
   have h2:=h_ (31-s)
   have:(2:Int)^s*1<=2^s*2^(31-s):=Int.mul_le_mul_of_nonneg_left om om
   omega
  have k2:(A:Int)*2^s<4294967296^al.length*2^s:=Int.mul_lt_mul_of_pos_right hAp hps
  have k3:(4294967296:Int)^al.length*2^s<=4294967296^al.length*2147483648:=Int.mul_le_mul_of_nonneg_left k1 (by have:=ft al.length;omega)
  have k4:(4294967296:Int)^al.length=4294967296^m*4294967296*4294967296^(K+1):=by
   rw[hK,<-Int.pow_succ,<-Int.pow_add];congr 1;omega
  rw[k4] at k2 k3
  have k6:(2147483648:Int)*(4294967296^m*4294967296*4294967296^(K+1))=4294967296^m*4294967296*4294967296^(K+1)*2147483648:=Int.mul_comm _ _
  have k7:(2147483648:Int)*(4294967296^m*4294967296)*4294967296^(K+1)=2147483648*(4294967296^m*4294967296*4294967296^(K+1)):=Int.mul_assoc ..
  have hPK:=ft (K+1)
  have k8:(2147483648:Int)*(4294967296^m*4294967296)*4294967296^(K+1)<=(V:Int)*4294967296^(K+1):=Int.mul_le_mul_of_nonneg_right hVge (Int.le_of_lt hPK)
  omega
 have hup:=ca hu
 have hulk:u.length=K+m+3:=om
 rw[hulk] at hup
 have hvm:=hwv m
 have hvm1:=hwv (m+1)
 have hVexp:(V:Int)=(v.getD (m+1) 0*4294967296+v.getD m 0)*4294967296^m+pv v m:=by
  rw[hVp,pv,pv,ew1,Int.add_mul,Int.mul_assoc,Int.mul_comm 4294967296];omega
 have hvlo:=bz hwv m
 have htopge:2147483648<=v.getD (m+1) 0:=by
  rcases Int.lt_or_le (v.getD (m+1) 0) 2147483648 with hh | hh
  ·exfalso
   have k1:(v.getD (m+1) 0*4294967296+v.getD m 0+1)*4294967296^m<=(2147483647*4294967296+4294967296)*4294967296^m:=Int.mul_le_mul_of_nonneg_right om om
   rw[Int.add_mul] at k1
   omega
  ·exact hh
 have hV0:0<(V:Int):=om
 refine⟨λy=>∃j:Nat,y.1=(j:Int)-1/\j<=K+1/\y.2.1.length=K+m+3/\Words y.2.1/\y.2.2.length=K+1/\Words y.2.2/\(∀k,k<j->y.2.2.getD k 0=0)/\
   (val u:Int)=pv y.2.2 (K+1)*V+pv y.2.1 (K+m+3)/\pv y.2.1 (K+m+3)<V*4294967296^j,λy=>(y.1+1).toNat,
  ⟨K+1,rfl,Nat.le_refl _,hulk,hu,by simp[bG],Words.rep _,λk hk=>?_,?_,?_⟩,?_⟩
 ·show(List.replicate (K+1) (0:Int)).getD k 0=0
  rw[List.getD_eq_getElem?_getD,List.getElem?_replicate];split<;>rfl
 ·show(val u:Int)=pv (List.replicate (K+1) (0:Int)) (K+1)*V+pv u (K+m+3)
  rw[mw,<-hup];omega
 ·show pv u (K+m+3)<_
  rw[<-hup];exact hU
 clear hU hup hulk hul hu
 rintro⟨x,u1,q⟩ ⟨j,hx,hj,hul1,hu1,hql,hq,hqz,hsum,hrem⟩
 simp only at hx hj hul1 hu1 hql hq hqz hsum hrem
 subst hx
 refine condT (λhc=>?_) (λhc=>?_)
 ·obtain⟨i,rfl⟩:∃i,j=i+1:=⟨j-1,by omega⟩
  have ei:((i+1:Nat):Int)-1=(i:Int):=om
  have f1:(i:Int)+(v.length:Int)=((i+(m+2):Nat):Int):=om
  have f2:((i+(m+2):Nat):Int)-1=((i+(m+1):Nat):Int):=om
  have f3:((i+(m+2):Nat):Int)-2=((i+m:Nat):Int):=om
  have f4:((i+(m+2):Nat):Int)+1=((i+(m+3):Nat):Int):=om
  have f5:0+Int.toNat (i:Int)=i:=om
  have f6:Int.toNat ((i+(m+3):Nat):Int)-Int.toNat (i:Int)=m+3:=om
  have h1:=hu1 (i+(m+2))
  have h2:=hu1 (i+(m+1))
  have h3:=hu1 (i+m)
  have e32:(2:Int)^Int.toNat 32=4294967296:=rfl
  have g1:=wrap_u64_id (m:=u1.getD (i+(m+2)) 0) om om
  have g2:=wrap_u64_id (m:=u1.getD (i+(m+1)) 0) om om
  have g3:=wrap_u64_id (m:=u1.getD (i+m) 0) om om
  have g4:=wrap_u64_id (m:=v.getD (m+1) 0) om om
  have g5:=wrap_u64_id (m:=v.getD m 0) om om
  have g6:=wrap_u64_id (m:=u1.getD (i+(m+2)) 0*4294967296) om om
  have g7:=n9 (x:=u1.getD (i+(m+1)) 0) (y:=u1.getD (i+(m+2)) 0*4294967296) 32 h2.1 h2.2 om (by show _ % 4294967296=0;omega) om
  simp only[ei,f1,f2,f3,f4,f5,f6,gG,e32,g1,g2,g3,g4,g5,g6,g7]
  obtain⟨P,hPd⟩:∃P,P=pv (u1.drop i) (m+3):=⟨_,rfl⟩
  have hPi:=ft i
  have hud:Words (u1.drop i):=hu1.drop i
  have hPb:=bz hud (m+3)
  have htot:pv u1 (K+m+3)=pv u1 i+P*4294967296^i:=by
   have k0:K+m+3=i+((m+3)+(K-i)):=om
   rw[k0,i5]
   congr 2
   rw[hPd]
   refine lT hud om ?_
   rw[k0,i5,Int.pow_succ] at hrem
   have k1:=(bz hu1 i).1
   have k2:pv (u1.drop i) (m+3+(K-i))*4294967296^i<(V*4294967296)*4294967296^i:=by
    rw[Int.mul_assoc,Int.mul_comm 4294967296];omega
   have k3:=Int.lt_of_mul_lt_mul_right k2 (Int.le_of_lt hPi)
   have k4:(4294967296:Int)^(m+3)=4294967296^(m+2)*4294967296:=Int.pow_succ ..
   omega
  have hPV:P<V*4294967296:=by
   have k1:=(bz hu1 i).1
   rw[htot,Int.pow_succ] at hrem
   have k2:P*4294967296^i<(V*4294967296)*4294967296^i:=by
    rw[Int.mul_assoc,Int.mul_comm 4294967296];omega
   exact Int.lt_of_mul_lt_mul_right k2 (Int.le_of_lt hPi)
  have hP0:0<=P:=by rw[hPd];exact hPb.1
  have hPexp:P=((u1.getD (i+(m+2)) 0*4294967296+u1.getD (i+(m+1)) 0)*4294967296+u1.getD (i+m) 0)*4294967296^m+pv (u1.drop i) m:=by
   rw[hPd,pv,pv,pv,dt,dt,dt,ew,ew1]
   generalize (4294967296:Int)^m=B
   generalize pv (u1.drop i) m=z
   grind
  have hhd:u1.getD (i+(m+2)) 0<=v.getD (m+1) 0:=by
   rcases Int.lt_or_le (v.getD (m+1) 0) (u1.getD (i+(m+2)) 0) with hh | hh
   ·exfalso
    have k1:(v.getD (m+1) 0+1)*(4294967296^m*4294967296*4294967296)<=u1.getD (i+(m+2)) 0*(4294967296^m*4294967296*4294967296):=Int.mul_le_mul_of_nonneg_right om om
    have k2:P=u1.getD (i+(m+2)) 0*(4294967296^m*4294967296*4294967296)+pv (u1.drop i) (m+2):=by rw[hPd,pv,dt,ew];omega
    have k3:=(bz hud (m+2)).1
    have k4:(V:Int)=v.getD (m+1) 0*(4294967296^m*4294967296)+pv v (m+1):=by rw[hVp,pv,ew1];omega
    have k5:=(bz hwv (m+1)).2
    rw[ew1] at k5
    have k6:(V:Int)*4294967296<(v.getD (m+1) 0+1)*(4294967296^m*4294967296*4294967296):=by
     rw[Int.add_mul,<-Int.mul_assoc (v.getD (m+1) 0),k4];omega
    omega
   ·exact hh
  refine⟨by unfold rng;omega,⟨by omega,by omega⟩,by unfold rng;omega,by unfold rng;omega,⟨by omega,by omega⟩,by omega,by omega,λg=>0<=g/\g<4294967296/\P<(g+1)*V/\(g-1)*V<=P,
   p' (next3:=λg=>0<=g/\g<4294967296/\P<(g+1)*V/\(g-1)*V<=P) (G1:=rng ((i+(m+2):Nat):Int)) (G2:=rng ((i+m:Nat):Int)) (G3:=(0:Int)<=((i+m:Nat):Int)/\((i+m:Nat):Int)<(u1.length:Int)) (by unfold rng;omega) (by unfold rng;omega) ⟨by omega,by omega⟩ htopge hvm1.2 hvm ⟨h1.1,hhd⟩ h2 h3 hVexp hvlo hPexp (bz hud m) hPm hPV (λg a1 a2 a3 a4=>⟨a1,a2,a3,a4⟩),?_⟩
  rintro g ⟨hg0,hg1,hgU,hgL⟩
  have hPW:(4294967296:Int)^(m+3)=4294967296^(m+2)*4294967296:=Int.pow_succ ..
  refine⟨λy=>Words y.2/\y.2.length=K+m+3/\(∀k,k<i\/i+(m+3)<=k->y.2.getD k 0=u1.getD k 0)/\0<=y.1/\y.1<4294967296/\pv (y.2.drop i) (m+3)=P-y.1*V/\P-y.1*V<V,?_,?_⟩
  ·refine⟨by unfold rng;omega,by unfold rng;omega,⟨by omega,by omega,by omega⟩,?_⟩
   refine mD hu1 hwv (by unfold SM;omega) om om hg0 hg1 (λw b hw hwl hwz hb hwp=>⟨hwl,?_⟩)
   rw[hvv,<-hPd] at hwp
   have hwd:=bz (hw.drop i) (m+3)
   have hgs:(g-1)*(V:Int)=g*V-V:=by rw[Int.sub_mul];omega
   have hga:(g+1)*(V:Int)=g*V+V:=by rw[Int.add_mul];omega
   rcases hb with rfl | rfl
   ·refine⟨λhh=>(by cases hh),λ_=>⟨hw,by show w.length=_;omega,hwz,hg0,hg1,?_,?_⟩⟩
    ·show pv (w.drop i) (m+3)=P-g*V
     omega
    ·show P-g*V<V
     omega
   ·refine⟨λ_=>⟨by unfold rng;omega,by unfold rng;omega,⟨by omega,by omega,by omega⟩,?_⟩,λhh=>by cases hh⟩
    refine mE hw hwv (by unfold SM;omega) om om (λw' c hw' hwl' hwz' hc' hwp'=>⟨hwl',?_⟩)
    rw[hvv] at hwp'
    have hwd':=bz (hw'.drop i) (m+3)
    have hg1':1<=g:=by
     rcases Int.lt_or_le g 1 with hh | hh
     ·have:g=0:=om
      subst this
      omega
     ·exact hh
    rw[wrap_u64_id (m:=g-1) om om]
    refine⟨hw',by show w'.length=_;omega,λk hk=>?_,by show 0<=g-1;omega,by show g-1<_;omega,?_,?_⟩
    ·show w'.getD k 0=_
     rw[hwz' k hk,hwz k hk]
    ·show pv (w'.drop i) (m+3)=P-(g-1)*V
     rcases hc' with rfl | rfl<;>omega
    ·show P-(g-1)*V<V
     omega
  ·rintro⟨g',u2⟩ ⟨hu2,hul2,hz2,hg0',hg1',hp2,hr2⟩
   simp only at hu2 hul2 hz2 hg0' hg1' hp2 hr2
   refine⟨⟨by omega,by omega⟩,by unfold rng;omega,⟨i,rfl,by omega,hul2,hu2,by simp[set',hql],?_,λk hk=>?_,?_,?_⟩,by first | omega | (dsimp only;omega)⟩
   ·rw[wrap_u32,cX];exact hq.set _ om om
   ·show(set' q (i:Int) _).getD k 0=0
    rw[cX,bR om];exact hqz k om
   ·show(val u:Int)=pv (set' q (i:Int) (IntKind.u32.wrap g')) (K+1)*V+pv u2 (K+m+3)
    have k0:=n7 hz2 (K+m+3) om
    have hgm:g' % 4294967296=g':=om
    rw[cX,wrap_u32,hgm,fM om (K+1) om,hqz i om,Int.sub_zero,hsum,Int.add_mul]
    rw[hp2,<-hPd] at k0
    have k1:(P-g'*V-P)*4294967296^i = - (g'*4294967296^i*V):=by
     have:P-g'*V-P = - (g'*V):=om
     rw[this,Int.neg_mul,Int.mul_right_comm]
    omega
   ·show pv u2 (K+m+3)<V*4294967296^i
    have k0:=n7 hz2 (K+m+3) om
    rw[hp2,<-hPd,htot] at k0
    have k1:=(bz hu1 i).2
    have k2:(P-g'*V+1)*4294967296^i<=V*4294967296^i:=Int.mul_le_mul_of_nonneg_right om om
    have k3:(P-g'*V-P)*4294967296^i=(P-g'*V)*4294967296^i-P*4294967296^i:=by rw[Int.sub_mul]
    rw[Int.add_mul] at k2
    omega
 ·obtain rfl:j=0:=om
  rw[Int.pow_zero,Int.mul_one] at hrem
  have hq1:=ca hq
  have hu1v:=ca hu1
  rw[hql] at hq1
  rw[hul1] at hu1v
  rw[<-hq1,<-hu1v] at hsum
  rw[<-hu1v] at hrem
  have hsumN:val u=val q*V+val u1:=by
   have:((val u:Nat):Int)=((val q*V+val u1:Nat):Int):=by rw[Int.natCast_add,Int.natCast_mul];exact hsum
   omega
  have hVB:V=B*2^s:=hr4v
  have hps':0<2^s:=Nat.pow_pos om
  have hV0':0<V:=om
  have hdiv:A / B=val q:=by
   have k1:A*2^s / (B*2^s)=A / B:=Nat.mul_div_mul_right _ _ hps'
   rw[<-k1,<-huv,<-hVB,hsumN,Nat.add_comm,Nat.add_mul_div_right _ _ hV0',Nat.div_eq_of_lt om];omega
  have hmod:A % B=val u1 / 2^s:=by
   have k1:A*2^s % (B*2^s)=A % B*2^s:=Nat.mul_mod_mul_right _ _ _
   rw[<-huv,<-hVB,hsumN,Nat.add_comm,Nat.add_mul_mod_self_right,Nat.mod_eq_of_lt om] at k1
   rw[k1,Nat.mul_div_cancel _ hps']
  refine bu hq (by unfold SM;omega) (lK hu1 (by unfold SM;omega) om (λr hr hrl hrv=>bu hr (by unfold SM;omega) ?_))
  rw[hrv,<-hmod,<-hdiv]
  exact h
theorem jx {a b:List Int} {Q:List Int->Prop} (ha:Words a) (hb:Words b) (la:a.length<=1099511627774) (lb:b.length<=1099511627774) (h:Q (lim (Nat.gcd (val a) (val b)))):fF a b Q:=by
 refine bu ha (by unfold SM;omega) (bu hb (by unfold SM;omega) ?_)
 have b1:=dS ha
 have b2:=dS hb
 refine⟨λy=>∃m n:Nat,y=(lim m,lim n)/\(lim m).length<=1099511627774/\(lim n).length<=1099511627774/\Nat.gcd m n=Nat.gcd (val a) (val b),λy=>val y.2,⟨_,_,rfl,by omega,by omega,rfl⟩,?_⟩
 rintro _ ⟨m,n,rfl,hm,hn,hg⟩
 refine condT (λhc=>?_) (λhc=>?_)
 ·have hn0:n≠0:=by rintro rfl;rw[cw] at hc;simp at hc
  refine gV (aF m) (aF n) hm hn (λh0=>absurd (by rw[bf] at h0;exact h0) hn0) (λ_=>?_)
  rw[bf,bf]
  have hlt:=Nat.mod_lt m (Nat.pos_of_ne_zero hn0)
  refine⟨⟨n,m % n,rfl,hn,Nat.le_trans (c7 (Nat.le_of_lt hlt)) hn,?_⟩,?_⟩
  ·rw[<-hg,Nat.gcd_comm n,<-Nat.gcd_rec,Nat.gcd_comm]
  ·show val (lim (m % n))<val (lim n)
   rw[bf,bf];exact hlt
 ·have hn0:n=0:=by
   rcases Nat.eq_zero_or_pos n with h0 | h0
   ·exact h0
   ·rw[dA h0] at hc;simp at hc
  subst hn0
  rw[Nat.gcd_zero_right] at hg
  rw[<-hg] at h
  exact h
end Go.Gg
namespace Go.Gg
theorem Words.one {x:Int} (h0:0<=x) (h1:x<4294967296):Words [x]:=Words.nil.cons h0 h1
end Go.Gg
namespace Go.Gg
end Go.Gg
namespace Go.Gg
theorem ux {g:Nat} (h:g<4294967296):val [(g:Int)]=g:=by
 rw[iW (Words.one om om),jV];omega
end Go.Gg
namespace Go.Gg
theorem fI {σ:Type} {n:Nat} (J:Nat->σ->Prop) (ix:σ->Int) (c:Int) (hix:∀i y,J i y->ix y=i+c) {x0:σ} {body:σ->(σ->Prop)->Prop} (h0:J 0 x0)
  (hs:∀i y (next:σ->Prop),i<n->J i y->(∀z,J (i+1) z->next z)->body y next) (he:∀y (next:σ->Prop),J n y->body y next):aU x0 body:=by
 refine⟨λy=>∃i,i<=n/\J i y,λy=>n-(ix y-c).toNat,⟨0,Nat.zero_le _,h0⟩,?_⟩
 rintro y ⟨i,hi,hJ⟩
 rcases Nat.lt_or_ge i n with h | h
 ·refine hs i y _ h hJ λz hz=>⟨⟨i+1,h,hz⟩,?_⟩
  have h1:=hix i y hJ
  have h2:=hix (i+1) z hz
  dsimp only
  rw[h1,h2]
  omega
 ·obtain rfl:i=n:=om
  exact he y _ hJ
theorem gX {σ:Type} {n:Nat} (f:Nat->σ) (ix:σ->Int) (c:Int) (hix:∀i,ix (f i)=i+c) {x0:σ} {body:σ->(σ->Prop)->Prop} (h0:x0=f 0)
  (hs:∀i (next:σ->Prop),i<n->next (f (i+1))->body (f i) next) (he:∀(next:σ->Prop),body (f n) next):aU x0 body:=
 fI (λi y=>y=f i) ix c (λi y h=>by rw[h];exact hix i) h0 (λi y next hi hy hn=>hy▸hs i next hi (hn _ rfl)) (λy next hy=>hy▸he next)
theorem oY {n:Nat} (P:Nat->Prop) {E:Prop} {st:Int->(Int->Prop)->Prop} (hn:n<=9223372036854775807)
  (hs:∀(i:Nat) (next:Int->Prop),i<n->(∀j,j<i->¬P j)->(¬P i->rng ((i:Int)+1)/\next ((i:Int)+1))->st (i:Int) next)
  (he:(∀j,j<n->¬P j)->E):aU (σ:=Int) 0 (λx next=>ae (decide (x<(n:Int))) (st x next) E):=by
 refine fI (n:=n) (λi y=>y=(i:Int)/\∀j,j<i->¬P j) (λy=>y) 0 (λi y h=>by rw[h.1,Int.add_zero]) ⟨rfl,λj hj=>absurd hj om⟩ ?_ ?_
 ·rintro i _ next hi ⟨rfl,hI⟩ hn2
  refine condT (λhc=>hs i next hi hI λhP=>⟨by unfold rng;omega,hn2 _ ⟨by omega,λj hj=>?_⟩⟩) (λhc=>absurd (show(i:Int)<n by omega) hc)
  rcases Nat.lt_or_ge j i with h1 | h1
  ·exact hI j h1
  ·obtain rfl:j=i:=om
   exact hP
 ·rintro _ next ⟨rfl,hI⟩
  exact condT (λhc=>absurd hc om) (λ_=>he hI)
def iz (g:Nat->Int):Nat->Int
 | 0=>0
 | n+1=>if iz g n=0 then g n else iz g n
theorem cD {g:Nat->Int}:∀ {n:Nat},iz g n=0↔∀i,i<n->g i=0
 | 0=>⟨λ_ i hi=>absurd hi om,λ_=>rfl⟩
 | n+1=>by
  rw[iz]
  constructor
  ·intro h i hi
   split at h
   ·rename_i h1
    rcases Nat.lt_or_ge i n with h2 | h2
    ·exact cD.1 h1 i h2
    ·obtain rfl:i=n:=om
     exact h
   ·rename_i h1;exact absurd h h1
  ·intro h
   rw[if_pos (cD.2 λi hi=>h i om)]
   exact h n om
theorem iy {g:Nat->Int} {i:Nat} (h:∀j,j<i->g j=0) (hg:g i≠0):∀n,i<n->iz g n=g i
 | 0,hn=>absurd hn om
 | n+1,hn=>by
  rw[iz]
  rcases Nat.lt_or_ge i n with h1 | h1
  ·rw[iy h hg n h1,if_neg hg]
  ·obtain rfl:i=n:=om
   rw[if_pos (cD.2 h)]
end Go.Gg
namespace Go.Gg
def sgn (neg:Bool) (n:Nat):Int:=if neg then -(n:Int) else n
def b_ (q:Rat):GRat:=if q.num=0 then ⟨false,[],[]⟩ else ⟨decide (q.num<0),lim q.num.natAbs,lim q.den⟩
def pR (a:GRat):Rat:=mkRat (sgn a.Neg (val a.Num)) (val a.Den)
def eqR (a b:GRat):Bool:=a.Neg == b.Neg && a.Num == b.Num && a.Den == b.Den
def okR (a:GRat):Bool:=eqR a (b_ (pR a))
def cy (a:GRat):Rat:=if okR a then pR a else 0
theorem kp {a b:GRat}:eqR a b=true↔a=b:=by
 cases a;cases b
 simp[eqR,and_assoc]
theorem jF {n:Int}:sgn (decide (n<0)) n.natAbs=n:=by
 unfold sgn
 by_cases h:n<0
 ·simp only[h,decide_true,if_true];omega
 ·simp only[h,decide_false,Bool.false_eq_true,if_false];omega
theorem mn (q:Rat):pR (b_ q)=q:=by
 unfold b_
 by_cases h:q.num=0
 ·rw[if_pos h]
  have:q=0:=Rat.num_eq_zero.1 h
  subst this
  simp[pR,sgn,jV]
 ·rw[if_neg h]
  simp only[pR]
  rw[bf,bf,jF,Rat.mkRat_self]
theorem rn (q:Rat):okR (b_ q)=true:=by
 unfold okR
 rw[mn]
 exact kp.2 rfl
theorem il (q:Rat):cy (b_ q)=q:=by rw[cy,rn,if_pos rfl,mn]
theorem n_ {a:GRat} (h:okR a=true):a=b_ (cy a):=by
 have:=kp.1 h
 rw[cy,h,if_pos rfl]
 exact this
def fv (l:List Int):Bool:=decide (0<l.length) && (l.getD (l.length-1) 0 != 0)
theorem nw {n:Nat} (h:n≠0):fv (lim n)=true:=by
 have h1:=qS h
 have h2:(lim n).length≠0:=by rw[dA om];simp
 simp only[fv,Bool.and_eq_true,decide_eq_true_eq,bne_iff_ne]
 exact⟨by omega,h1⟩
theorem kJ {l:List Int} (hw:Words l) (h:fv l=true):lim (val l)=l/\val l≠0:=by
 simp only[fv,Bool.and_eq_true,decide_eq_true_eq,bne_iff_ne] at h
 have h1:=qR hw (λ_=>h.2)
 refine⟨h1,λh0=>?_⟩
 rw[h0,cw] at h1
 rw[<-h1] at h
 simp at h
theorem t_ {b:Bool} {n:Nat} (h:n≠0):decide (sgn b n<0)=b:=by
 cases b
 ·simp[sgn]
 ·simp[sgn];omega
theorem lR {b:Bool} {n:Nat}:(sgn b n).natAbs=n:=by cases b<;>simp[sgn]
theorem sX {b:Bool}:sgn b 0=0:=by cases b<;>rfl
theorem vk {b:Bool} {n:Nat} (h:n≠0):sgn b n≠0:=by
 intro h0
 have:=lR (b:=b) (n:=n)
 rw[h0] at this
 exact h (by simpa using this.symm)
theorem o5 {b:Bool} {n d:Nat} (hn:n≠0) (hd:d≠0):b_ (mkRat (sgn b n) d)=⟨b,lim (n / Nat.gcd n d),lim (d / Nat.gcd n d)⟩:=by
 have e1:(mkRat (sgn b n) d).num=sgn b (n / Nat.gcd n d):=by
  rw[Rat.num_mkRat,if_neg hd,lR,Nat.gcd_comm]
  cases b
  ·simp[sgn]
  ·simp only[sgn,if_true]
   have:((Nat.gcd n d:Nat):Int) ∣ (n:Int):=Int.natCast_dvd_natCast.2 (Nat.gcd_dvd_left n d)
   rw[Int.neg_ediv_of_dvd this]
   simp
 have e2:(mkRat (sgn b n) d).den=d / Nat.gcd n d:=by rw[Rat.den_mkRat,if_neg hd,lR,Nat.gcd_comm]
 have hg:0<n / Nat.gcd n d:=Nat.div_pos (Nat.le_of_dvd om (Nat.gcd_dvd_left n d)) (Nat.gcd_pos_of_pos_left _ om)
 unfold b_
 rw[e1,e2,if_neg (vk om),t_ om,lR]
theorem nt {b:Bool} {d:Nat}:b_ (mkRat (sgn b 0) d)=⟨false,[],[]⟩:=by rw[sX,Rat.zero_mkRat];rfl
theorem uh {a:GRat} (hn:Words a.Num) (hd:Words a.Den) :
  okR a=if a.Num.length=0/\a.Den.length=0 then !a.Neg else fv a.Num && (fv a.Den && decide (Nat.gcd (val a.Num) (val a.Den)=1)):=by
 obtain⟨b,n,d⟩:=a
 simp only at hn hd ⊢
 by_cases h:n.length=0/\d.length=0
 ·rw[if_pos h]
  obtain rfl:=List.eq_nil_of_length_eq_zero h.1
  obtain rfl:=List.eq_nil_of_length_eq_zero h.2
  simp only[okR,pR,jV,nt]
  cases b<;>rfl
 ·rw[if_neg h]
  cases hp:fv n with
  | false=>
   rw[Bool.false_and]
   cases ho:okR ⟨b,n,d⟩ with
   | false=>rfl
   | true=>
    exfalso
    have e:=n_ ho
    unfold b_ at e
    split at e
    ·cases e;exact h ⟨rfl,rfl⟩
    ·rename_i hz
     injection e with e1 e2 e3
     rw[e2,nw om] at hp
     cases hp
  | true=>
  rw[Bool.true_and]
  cases hq:fv d with
  | false=>
   rw[Bool.false_and]
   cases ho:okR ⟨b,n,d⟩ with
   | false=>rfl
   | true=>
    exfalso
    have e:=n_ ho
    unfold b_ at e
    split at e
    ·cases e;exact h ⟨rfl,rfl⟩
    ·rename_i hz
     injection e with e1 e2 e3
     rw[e3,nw (Rat.den_nz _)] at hq
     cases hq
  | true=>
  rw[Bool.true_and]
  obtain⟨n1,n2⟩:=kJ hn hp
  obtain⟨d1,d2⟩:=kJ hd hq
  have hm:b_ (pR ⟨b,n,d⟩)=⟨b,lim (val n / Nat.gcd (val n) (val d)),lim (val d / Nat.gcd (val n) (val d))⟩:=o5 n2 d2
  by_cases hg:Nat.gcd (val n) (val d)=1
  ·rw[hg] at hm
   simp only[hg,decide_true]
   rw[okR]
   refine kp.2 ?_
   rw[hm,Nat.div_one,Nat.div_one,n1,d1]
  ·simp only[hg,decide_false]
   cases ho:okR ⟨b,n,d⟩ with
   | false=>rfl
   | true=>
    exfalso
    have e:=kp.1 ho
    rw[hm] at e
    injection e with e1 e2 e3
    have e4:val n=val n / Nat.gcd (val n) (val d):=by
     have:=congrArg val e2
     rwa[bf] at this
    have hgp:0<Nat.gcd (val n) (val d):=Nat.gcd_pos_of_pos_left _ om
    have:=Nat.div_lt_self (n:=val n) om (show 1<Nat.gcd (val n) (val d) by omega)
    omega
def RB (k:Nat) (q:Rat):Prop:=q.num.natAbs<2^k/\q.den<2^k
theorem di {n k:Nat} (h:n<2^k):(lim n).length<=k / 32+1:=by
 refine p6 (Nat.lt_of_lt_of_le h ?_)
 have:(4294967296:Nat)^(k / 32+1)=2^(32*(k / 32+1)):=by rw[Nat.pow_mul]
 rw[this]
 exact Nat.pow_le_pow_right om om
theorem uK (k:Nat) (hk:1<=k):RB k 0:=⟨by simp;exact Nat.pow_pos om,by
 have:2^1<=2^k:=Nat.pow_le_pow_right om hk
 simp;omega⟩
theorem dg {m n k l:Nat} (h:m<2^k) (h':n<2^l):m*n<2^(k+l):=by
 rw[Nat.pow_add]
 exact Nat.mul_lt_mul'' h h'
theorem mX {n:Int} {d k:Nat} (hd:d≠0) (hn:n.natAbs<2^k) (hdk:d<2^k):RB k (mkRat n d):=by
 refine⟨?_,?_⟩
 ·rw[Rat.num_mkRat,if_neg hd]
  refine Nat.lt_of_le_of_lt ?_ hn
  exact Int.natAbs_ediv_le_natAbs _ _
 ·rw[Rat.den_mkRat,if_neg hd]
  exact Nat.lt_of_le_of_lt (Nat.div_le_self _ _) hdk
theorem vX {k l:Nat} {p q:Rat} (hp:RB k p) (hq:RB l q):RB (k+l) (p*q):=by
 rw[Rat.mul_def']
 refine mX (Nat.mul_ne_zero p.den_nz q.den_nz) ?_ (dg hp.2 hq.2)
 rw[Int.natAbs_mul]
 exact dg hp.1 hq.1
theorem qk {k l:Nat} {p q:Rat} (hp:RB k p) (hq:RB l q):RB (k+l+1) (p+q):=by
 rw[Rat.add_def']
 refine mX (Nat.mul_ne_zero p.den_nz q.den_nz) ?_ (Nat.lt_of_lt_of_le (dg hp.2 hq.2) (Nat.pow_le_pow_right om om))
 have h1:(p.num*q.den).natAbs<2^(k+l):=by rw[Int.natAbs_mul];exact dg hp.1 (by simpa using hq.2)
 have h2:(q.num*p.den).natAbs<2^(k+l):=by rw[Int.natAbs_mul,Nat.add_comm k l];exact dg hq.1 (by simpa using hp.2)
 have h3:=Int.natAbs_add_le (p.num*q.den) (q.num*p.den)
 rw[Nat.pow_succ]
 omega
theorem qj {k:Nat} {p:Rat} (hp:RB k p):RB k (-p):=⟨by simpa using hp.1,hp.2⟩
theorem vY {k:Nat} {p:Rat} (hp:RB k p):RB k p⁻¹:=by
 by_cases h0:p.num=0
 ·have:p=0:=Rat.num_eq_zero.1 h0
  subst this
  simpa using hp
 ·refine⟨?_,?_⟩
  ·rw[Rat.num_inv,Int.natAbs_mul,Int.natAbs_sign_of_ne_zero h0,Nat.one_mul];simpa using hp.2
  ·rw[Rat.den_inv,if_neg h0];exact hp.1
theorem tQ {k l:Nat} {p q:Rat} (hp:RB k p) (hq:RB l q):RB (k+l) (p / q):=by rw[Rat.div_def];exact vX hp (vY hq)
theorem vW {k l:Nat} {p q:Rat} (hp:RB k p) (hq:RB l q):RB (k+l+1) (p-q):=by rw[Rat.sub_eq_add_neg];exact qk hp (qj hq)
theorem v4 {k:Nat} {n:Int} (hk:1<=k) (h:n.natAbs<2^k):RB k (n:Rat):=⟨h,by
 have:2^1<=2^k:=Nat.pow_le_pow_right om hk
 show 1<2^k
 omega⟩
end Go.Gg
namespace Go.Gg
def Fr (a:GRat):Prop:=Words a.Num/\Words a.Den/\a.Num.length<=1099511627760/\a.Den.length<=1099511627760
theorem mZ {q:Rat} {k:Nat} (h:RB k q) (hk:k<=35184372088000):Fr (b_ q):=by
 unfold b_
 split
 ·exact⟨Words.nil,Words.nil,by simp,by simp⟩
 ·have h1:=di h.1
  have h2:=di h.2
  exact⟨aF _,aF _,by dsimp only;omega,by dsimp only;omega⟩
theorem e9 {n:Nat}:((lim n).length:Int)=0↔n=0:=by
 constructor
 ·intro h
  rcases Nat.eq_zero_or_pos n with h0 | h0
  ·exact h0
  ·rw[dA h0] at h;simp at h;omega
 ·rintro rfl;rw[cw];rfl
theorem kv {n:Nat}:(bS n:Int)=0↔n=0:=by
 unfold bS
 split<;>omega
theorem qD {b:Bool} {m n:Nat}:sgn b (m*n)=sgn b m*(n:Int):=by
 cases b<;>simp[sgn,Int.natCast_mul,Int.neg_mul]
theorem sY {b c:Bool} {m n:Nat}:sgn (b != c) (m*n)=sgn b m*sgn c n:=by
 cases b<;>cases c<;>simp[sgn,Int.natCast_mul,Int.neg_mul,Int.mul_neg,Int.neg_neg]
theorem ua {b:Bool} {m n:Nat}:sgn b (m+n)=sgn b m+sgn b n:=by
 cases b<;>simp only[sgn,Bool.false_eq_true,if_false,if_true]<;>omega
theorem qC {b c:Bool} {m n:Nat} (hbc:¬b=c) (h:n<=m):sgn b (m-n)=sgn b m+sgn c n:=by
 cases b<;>cases c<;>first | exact absurd rfl hbc | (simp only[sgn,Bool.false_eq_true,if_false,if_true];omega)
theorem mc (q:Rat):sgn (decide (q.num<0)) q.num.natAbs=q.num:=jF
theorem nO:val [1]=1:=ux (g:=1) om
theorem wm:lim 1=[1]:=by rw[dA om];simp[cw]
theorem nM:Words [1]:=Words.one om om
theorem cV {neg:Bool} {num den:List Int} {Q:GRat->Prop} (hn:Words num) (hd:Words den) (ln:num.length<=1099511627760) (ld:den.length<=1099511627760)
  (h0:val den≠0) (h:Q (b_ (mkRat (sgn neg (val num)) (val den)))):bU neg num den Q:=by
 refine mF hn (by unfold SM;omega) (cS (λhc=>?_) (λhc=>?_))
 ·rw[kv] at hc
  rw[hc,nt] at h
  exact h
 ·have hn0:val num≠0:=λhh=>hc (kv.2 hh)
  rw[o5 hn0 h0] at h
  have hgp:Nat.gcd (val num) (val den)≠0:=Nat.ne_of_gt (Nat.gcd_pos_of_pos_left _ om)
  refine jx hn hd om om ?_
  have hgl:(lim (Nat.gcd (val num) (val den))).length<=1099511627760:=by
   refine Nat.le_trans (c7 (Nat.gcd_le_left _ om)) (Nat.le_trans (dS hn) ln)
  refine gV hn (aF _) om om (λhh=>absurd (by rwa[bf] at hh) hgp) (λ_=>?_)
  refine gV hd (aF _) om om (λhh=>absurd (by rwa[bf] at hh) hgp) (λ_=>?_)
  rw[bf]
  exact h
theorem hZ {a:List Int} {Q:Bool->Prop} (la:a.length<=1099511627776) (h:Q (fv a)):d6 a Q:=by
 refine condT (λhc=>⟨by unfold rng;omega,by omega,?_⟩) (λhc=>?_)
 ·have e:fv a=(at' a ((a.length:Int)-1) != 0):=by
   have:(a.length:Int)-1=((a.length-1:Nat):Int):=om
   rw[this,gG]
   simp only[fv]
   rw[decide_eq_true (by omega:0<a.length),Bool.true_and]
  rw[<-e];exact h
 ·have e:fv a=false:=by
   simp only[fv]
   rw[decide_eq_false (by omega:¬0<a.length),Bool.false_and]
  rw[e] at h;exact h
theorem cx {b:Bool} {p q:Prop} (h1:b=true->p) (h2:b=false->q):ae b p q:=⟨h1,h2⟩
theorem lL {n:Nat} {Q:Int->Prop} (hl:(lim n).length<=1099511627776) (h:Q (lP n 1)):cC (lim n) [1] Q:=by
 refine fG (aF _) nM (by unfold SM;omega) (by unfold SM;simp) ?_
 rw[bf,nO]
 exact h
theorem tG {m n:Nat}:(lP m n == 0)=decide (m=n):=by
 unfold lP
 split
 ·rw[decide_eq_false om];rfl
 ·split
  ·rename_i h;rw[decide_eq_true h];rfl
  ·rename_i h;rw[decide_eq_false h];rfl
theorem kD {a:GRat} {Q:Bool->Prop} (fa:Fr a) (h:Q (okR a)):fr a Q:=by
 obtain⟨hn,hd,ln,ld⟩:=fa
 rw[uh hn hd] at h
 refine⟨λx=>x=decide (a.Num.length=0/\a.Den.length=0),?_,?_⟩
 ·refine cS (λhc=>?_) (λhc=>?_)
  ·by_cases hd0:a.Den.length=0
   ·rw[decide_eq_true ⟨by omega,hd0⟩];simp;exact List.eq_nil_of_length_eq_zero hd0
   ·rw[decide_eq_false om];simp;intro hh;exact hd0 (by rw[hh];rfl)
  ·rw[decide_eq_false om]
 ·rintro _ rfl
  refine condT (λhc=>?_) (λhc=>?_)
  ·rw[if_pos hc] at h;exact h
  ·rw[if_neg hc] at h
   refine hZ om (cx (λhp=>?_) (λhp=>?_))
   ·rw[hp,Bool.true_and] at h
    refine hZ om (cx (λhq=>?_) (λhq=>?_))
    ·rw[hq,Bool.true_and] at h
     refine jx hn hd om om ?_
     have hgl:(lim (Nat.gcd (val a.Num) (val a.Den))).length<=1099511627760:=by
      refine Nat.le_trans (c7 (Nat.gcd_le_left _ ?_)) (Nat.le_trans (dS hn) ln)
      have:=(kJ hn hp).2
      omega
     show cC (lim (Nat.gcd (val a.Num) (val a.Den))) [1] (λr4=>Q (r4 == 0))
     refine lL om ?_
     rw[tG]
     exact h
    ·rw[hq,Bool.false_and] at h;exact h
   ·rw[hp,Bool.false_and] at h;exact h
theorem sE {a:GRat} (h:okR a=false):cy a=0:=by rw[cy,h];rfl
theorem pS {a:GRat} (h:okR a=true->a.Num.length=0):cy a=0:=by
 cases ho:okR a with
 | false=>exact sE ho
 | true=>
  have e:=n_ ho
  have hl:=h ho
  unfold b_ at e
  split at e
  ·rename_i hz;exact Rat.num_eq_zero.1 hz
  ·rename_i hz
   rw[e] at hl
   have:=e9.1 (by rw[hl];rfl)
   omega
theorem pT {a:GRat} (ho:okR a=true) (hl:a.Num.length≠0):(cy a).num≠0/\a=⟨decide ((cy a).num<0),lim (cy a).num.natAbs,lim (cy a).den⟩:=by
 have e:=n_ ho
 by_cases hz:(cy a).num=0
 ·exfalso
  unfold b_ at e
  rw[if_pos hz] at e
  rw[e] at hl
  exact hl rfl
 ·refine⟨hz,?_⟩
  unfold b_ at e
  rw[if_neg hz] at e
  exact e
theorem cG {a:GRat} {Q:Bool->List Int->List Int->Prop} (fa:Fr a) (h:Q (decide ((cy a).num<0)) (lim (cy a).num.natAbs) (lim (cy a).den)):bW a Q:=by
 refine⟨λx=>x=(!okR a || decide (a.Num.length=0)),?_,?_⟩
 ·refine kD fa (cx (λhc=>?_) (λhc=>?_))
  ·rw[hc];rfl
  ·rw[hc,Bool.false_or]
   by_cases hl:a.Num.length=0
   ·rw[decide_eq_true hl];simp;exact List.eq_nil_of_length_eq_zero hl
   ·rw[decide_eq_false hl];simp;intro hh;exact hl (by rw[hh];rfl)
 ·rintro _ rfl
  refine cx (λhc=>?_) (λhc=>?_)
  ·have hz:cy a=0:=pS (λho=>by rw[ho] at hc;simpa using hc)
   rw[hz] at h
   simp at h
   rw[cw,wm] at h
   exact h
  ·simp at hc
   obtain⟨_,e⟩:=pT hc.1 (λhl=>hc.2 (List.eq_nil_of_length_eq_zero hl))
   rw[show a.Neg=decide ((cy a).num<0) from by rw[e];simp[<-e],show a.Num=lim (cy a).num.natAbs from by rw[e];simp[<-e],show a.Den=lim (cy a).den from by rw[e];simp[<-e]]
   exact h
theorem mW {q:Rat} {k:Nat} (h:RB k q):(lim q.num.natAbs).length<=k / 32+1/\(lim q.den).length<=k / 32+1:=⟨di h.1,di h.2⟩
theorem km {m n k l:Nat} (h:m<2^k) (h':n<2^l):(lim (m*n)).length<=(k+l) / 32+1:=di (dg h h')
theorem uJ {m n k:Nat} (h:m<2^k) (h':n<2^k):(lim (m+n)).length<=(k+1) / 32+1:=di (by rw[Nat.pow_succ];omega)
theorem tP (p q:Rat):p+q=mkRat (sgn (decide (p.num<0)) (p.num.natAbs*q.den)+sgn (decide (q.num<0)) (q.num.natAbs*p.den)) (p.den*q.den):=by
 rw[qD,qD,mc,mc,Rat.add_def']
theorem tx {q:Rat} (_h:q.num≠0):q⁻¹=mkRat (sgn (decide (q.num<0)) q.den) q.num.natAbs:=by
 rw[Rat.inv_def]
 by_cases hn:q.num<0
 ·rw[decide_eq_true hn]
  have e:q.num = -((q.num.natAbs:Nat):Int):=om
  rw[<-Rat.divInt_ofNat]
  show Rat.divInt q.den q.num=Rat.divInt (-(q.den:Int)) _
  rw[<-Rat.divInt_neg',<-e]
 ·rw[decide_eq_false hn]
  have e:q.num=((q.num.natAbs:Nat):Int):=om
  rw[<-Rat.divInt_ofNat]
  show Rat.divInt q.den q.num=Rat.divInt (q.den:Int) _
  rw[<-e]
theorem tD (p:Rat) {q:Rat} (h:q.num≠0):p / q=mkRat (sgn (decide (p.num<0) != decide (q.num<0)) (p.num.natAbs*q.den)) (p.den*q.num.natAbs):=by
 rw[Rat.div_def,tx h,sY,mc]
 have:p=mkRat p.num p.den:=(Rat.mkRat_self p).symm
 rw[this,Rat.mkRat_mul_mkRat,<-this]
theorem tv (p:Rat) : -p=mkRat (sgn (!decide (p.num<0)) p.num.natAbs) p.den:=by
 have e:sgn (!decide (p.num<0)) p.num.natAbs = -p.num:=by
  by_cases h:p.num<0
  ·rw[decide_eq_true h];simp only[sgn,Bool.not_true,Bool.false_eq_true,if_false];omega
  ·rw[decide_eq_false h];simp only[sgn,Bool.not_false,if_true];omega
 rw[e,<-Rat.neg_mkRat,Rat.mkRat_self]
theorem i4 {a b:GRat} {k l:Nat} {Q:GRat->Prop} (fa:Fr a) (fb:Fr b) (ka:RB k (cy a)) (kb:RB l (cy b)) (hk:k+l+1<=35184372088000) (h:Q (b_ (cy a+cy b))):cK a b Q:=by
 refine cG fa (cG fb ?_)
 generalize cy a=p at ka h ⊢
 generalize cy b=q at kb h ⊢
 have la:=mW ka
 have lb:=mW kb
 have l1:=km ka.1 kb.2
 have l2:=km kb.1 ka.2
 have l3:=km ka.2 kb.2
 have hd:p.den*q.den≠0:=Nat.mul_ne_zero p.den_nz q.den_nz
 refine ek (aF _) (aF _) om (ek (aF _) (aF _) om (ek (aF _) (aF _) om ?_))
 simp only[bf]
 rw[tP] at h
 refine cS (λhs=>?_) (λhs=>?_)
 ·refine nb (aF _) (aF _) (by unfold SM;omega) ⟨by omega,by omega⟩ ?_
  simp only[bf]
  have l4:(lim (p.num.natAbs*q.den+q.num.natAbs*p.den)).length<=(k+l+1) / 32+1:=uJ (dg ka.1 kb.2) (by rw[Nat.add_comm k];exact dg kb.1 ka.2)
  refine cV (aF _) (aF _) om om (by rw[bf];exact hd) ?_
  rw[bf,bf,ua]
  rw[<-hs] at h
  exact h
 ·refine fG (aF _) (aF _) (by unfold SM;omega) (by unfold SM;omega) ?_
  simp only[bf]
  refine condT (λhc=>?_) (λhc=>?_)
  ·have hle:q.num.natAbs*p.den<=p.num.natAbs*q.den:=by
    rcases Nat.lt_or_ge (p.num.natAbs*q.den) (q.num.natAbs*p.den) with h1 | h1
    ·have:=kq.2 h1;omega
    ·exact h1
   refine jw (aF _) (aF _) (by unfold SM;omega) (by unfold SM;omega) (λhh=>by rw[bf,bf] at hh;omega) (λ_=>?_)
   simp only[bf]
   have l4:=c7 (Nat.sub_le (p.num.natAbs*q.den) (q.num.natAbs*p.den))
   refine cV (aF _) (aF _) om om (by rw[bf];exact hd) ?_
   rw[bf,bf,qC hs hle]
   exact h
  ·have hle:p.num.natAbs*q.den<=q.num.natAbs*p.den:=by
    rcases Nat.lt_or_ge (p.num.natAbs*q.den) (q.num.natAbs*p.den) with h1 | h1
    ·omega
    ·exfalso
     apply hc
     unfold lP
     split
     ·omega
     ·split<;>omega
   refine jw (aF _) (aF _) (by unfold SM;omega) (by unfold SM;omega) (λhh=>by rw[bf,bf] at hh;omega) (λ_=>?_)
   simp only[bf]
   have l4:=c7 (Nat.sub_le (q.num.natAbs*p.den) (p.num.natAbs*q.den))
   refine cV (aF _) (aF _) om om (by rw[bf];exact hd) ?_
   rw[bf,bf,qC (λe=>hs e.symm) hle,Int.add_comm]
   exact h
theorem mr {a b:GRat} {k l:Nat} {Q:GRat->Option Int->Prop} (fa:Fr a) (fb:Fr b) (ka:RB k (cy a)) (kb:RB l (cy b)) (hk:k+l+1<=35184372088000)
  (h0:cy b=0->Q (b_ 0) (some 8)) (h:cy b≠0->Q (b_ (cy a / cy b)) none):dK a b Q:=by
 refine cG fa (cG fb ?_)
 generalize cy a=p at ka h ⊢
 generalize cy b=q at kb h h0 ⊢
 have la:=mW ka
 have lb:=mW kb
 have l1:=km ka.1 kb.2
 have l3:=km ka.2 kb.1
 refine cS (λhc=>?_) (λhc=>?_)
 ·rw[e9] at hc
  exact h0 (Rat.num_eq_zero.1 om)
 ·have hq:q.num≠0:=λhh=>hc (e9.2 om)
  have hd:p.den*q.num.natAbs≠0:=Nat.mul_ne_zero p.den_nz om
  refine ek (aF _) (aF _) om (ek (aF _) (aF _) om ?_)
  simp only[bf]
  refine cV (aF _) (aF _) om om (by rw[bf];exact hd) ?_
  rw[bf,bf,<-tD p hq]
  exact h (λhh=>hq (by rw[hh];rfl))
theorem mq {a:GRat} {k:Nat} {Q:GRat->Prop} (fa:Fr a) (ka:RB k (cy a)) (hk:k<=35184372088000) (h:Q (b_ (-cy a))):gt a Q:=by
 refine cG fa ?_
 generalize cy a=p at ka h ⊢
 have la:=mW ka
 refine cV (aF _) (aF _) om om (by rw[bf];exact p.den_nz) ?_
 rw[bf,bf,<-tv]
 exact h
theorem mo {a b:GRat} {k l:Nat} {Q:GRat->Prop} (fa:Fr a) (fb:Fr b) (ka:RB k (cy a)) (kb:RB l (cy b)) (hk:k+l+1<=35184372088000) (h:Q (b_ (cy a-cy b))):gr a b Q:=by
 refine⟨_,mq fb kb om rfl,_,i4 fa (mZ (qj kb) om) ka (by rw[il];exact qj kb) hk rfl,?_⟩
 rw[il,<-Rat.sub_eq_add_neg]
 exact h
def md (q:Rat):Int:=if q.num=0 then 0 else if q.num<0 then -1 else 1
theorem iG {a:GRat} {Q:Int->Prop} (fa:Fr a) (h:Q (md (cy a))):dk a Q:=by
 refine cG fa ?_
 generalize cy a=p at h ⊢
 unfold md at h
 refine cS (λhc=>?_) (λhc=>?_)
 ·rw[e9] at hc
  rw[if_pos om] at h;exact h
 ·have hq:p.num≠0:=λhh=>hc (e9.2 om)
  rw[if_neg hq] at h
  refine condT (λhs=>?_) (λhs=>?_)
  ·rw[if_pos hs] at h;exact h
  ·rw[if_neg hs] at h;exact h
theorem mu {a b:GRat} {k l:Nat} {Q:Int->Prop} (fa:Fr a) (fb:Fr b) (ka:RB k (cy a)) (kb:RB l (cy b)) (hk:k+l+1<=35184372088000) (h:Q (md (cy a-cy b))):dM a b Q:=by
 refine mo fa fb ka kb hk (iG (mZ (vW ka kb) hk) ?_)
 rw[il]
 exact h
theorem lG {n:Int} {Q:List Int->Prop} (hn:rng n) (h:Q (lim n.natAbs)):fV n Q:=by
 refine cS (λhc=>?_) (λhc=>?_)
 ·subst hc
  have:lim (Int.natAbs (-9223372036854775808))=[0,2147483648]:=by
   rw[show Int.natAbs (-9223372036854775808)=9223372036854775808 from rfl,dA om,dA om]
   simp[cw]
  rw[this] at h
  exact h
 ·unfold rng at hn ⊢
  refine⟨by omega,kg om ?_⟩
  have:(max n (-n)).toNat=n.natAbs:=om
  rw[this]
  exact h
theorem m_ {n:Int} {Q:GRat->Prop} (hn:rng n) (h:Q (b_ (n:Rat))):eh n Q:=by
 refine lG hn ?_
 show bU _ _ [1] _
 have hl:(lim n.natAbs).length<=64 / 32+1:=di (by unfold rng at hn;omega)
 refine cV (aF _) nM om (by simp) (by rw[nO];omega) ?_
 rw[bf,nO,jF,show mkRat n 1=(n:Rat) from Rat.mkRat_self (n:Rat)]
 exact h
end Go.Gg
namespace Go.Gg
end Go.Gg
namespace Go.Gg
theorem tC {α:Type} [Inhabited α] {l m:List α} (hl:l.length=m.length) (h:∀i:Nat,i<l.length->at' l (i:Int)=at' m (i:Int)):l=m:=by
 refine List.ext_getElem hl λi h1 h2=>?_
 have:=h i h1
 simp only[at',Int.toNat_natCast,List.getD_eq_getElem?_getD,List.getElem?_eq_getElem h1,List.getElem?_eq_getElem h2,Option.getD_some] at this
 exact this
instance decGRat:DecidableEq GRat:=λ_ _=>decidable_of_iff _ kp
def jO (e:Int):Option Int:=if e=0 then none else some e
end Go.Gg
namespace Go.Gg
def Rp (k:Nat) (a:GRat) (q:Rat):Prop:=Fr a/\cy a=q/\RB k q
abbrev cap:Nat:=35184372088000
theorem Rp.of {q:Rat} {k:Nat} (h:RB k q) (hk:k<=cap):Rp k (b_ q) q:=⟨mZ h hk,il q,h⟩
theorem Rp.zero {k:Nat} (hk:1<=k) (hk2:k<=cap):Rp k (⟨false,[],[]⟩:GRat) 0:=.of (uK k hk) hk2
theorem sk {n:Int} (hn:rng n):RB 64 (n:Rat):=v4 om (by unfold rng at hn;omega)
theorem sZ {q:Rat}:md q<0↔q<0:=by
 unfold md
 have h1:q.num<0↔q<0:=by
  have:=Rat.num_nonneg (q:=q)
  rw[<-Int.not_le,this,Rat.not_le]
 split
 ·rename_i h;rw[h] at h1;simpa using h1
 ·split
  ·rename_i h;simpa using h1.1 h
  ·rename_i h;simpa using λhh=>h (h1.2 hh)
theorem qE {q:Rat}:md q=0↔q=0:=by
 unfold md
 constructor
 ·intro h
  split at h
  ·rename_i h0;exact Rat.num_eq_zero.1 h0
  ·split at h<;>omega
 ·rintro rfl;rfl
theorem wx {a b:GRat} {p q:Rat} {k l:Nat} {Q:GRat->Prop} (ha:Rp k a p) (hb:Rp l b q) (hk:k+l+1<=cap) (h:Rp (k+l+1) (b_ (p+q)) (p+q)->Q (b_ (p+q))):cK a b Q:=by
 obtain⟨fa,rfl,ka⟩:=ha
 obtain⟨fb,rfl,kb⟩:=hb
 exact i4 fa fb ka kb hk (h (.of (qk ka kb) hk))
theorem vS {a b:GRat} {p q:Rat} {k l:Nat} {K:GRat->Prop} (ha:Rp k a p) (hb:Rp l b q) (hk:k+l+1<=cap) (h:Rp (k+l+1) (b_ (p+q)) (p+q)->K (b_ (p+q))):lO (cK a b) K:=
 ⟨_,wx ha hb hk (λ_=>rfl),h (.of (qk ha.2.2 hb.2.2) hk)⟩
theorem wp {a b:GRat} {p q:Rat} {k l:Nat} {Q:GRat->Option Int->Prop} (ha:Rp k a p) (hb:Rp l b q) (hk:k+l+1<=cap) (h0:q=0->Q (b_ 0) (some 8)) (h:q≠0->Rp (k+l) (b_ (p / q)) (p / q)->Q (b_ (p / q)) none):dK a b Q:=by
 obtain⟨fa,rfl,ka⟩:=ha
 obtain⟨fb,rfl,kb⟩:=hb
 exact mr fa fb ka kb hk h0 (λhn=>h hn (.of (tQ ka kb) (by simp only[cap] at hk ⊢;omega)))
theorem vM {a b:GRat} {p q:Rat} {k l:Nat} {K:GRat->Option Int->Prop} (ha:Rp k a p) (hb:Rp l b q) (hk:k+l+1<=cap) (hq:q≠0) (h:Rp (k+l) (b_ (p / q)) (p / q)->K (b_ (p / q)) none):uY (dK a b) K:=
 ⟨_,_,wp ha hb hk (λe=>absurd e hq) (λ_ _=>⟨rfl,rfl⟩),h (.of (tQ ha.2.2 hb.2.2) (by simp only[cap] at hk ⊢;omega))⟩
theorem vg {a:GRat} {p:Rat} {k:Nat} {Q:Int->Prop} (ha:Rp k a p) (h:Q (md p)):dk a Q:=by
 obtain⟨fa,rfl,ka⟩:=ha
 exact iG fa h
theorem wq {a b:GRat} {p q:Rat} {k l:Nat} {Q:Int->Prop} (ha:Rp k a p) (hb:Rp l b q) (hk:k+l+1<=cap) (h:Q (md (p-q))):dM a b Q:=by
 obtain⟨fa,rfl,ka⟩:=ha
 obtain⟨fb,rfl,kb⟩:=hb
 exact mu fa fb ka kb hk h
theorem vP {a b:GRat} {p q:Rat} {k l:Nat} {K:Int->Prop} (ha:Rp k a p) (hb:Rp l b q) (hk:k+l+1<=cap) (h:K (md (p-q))):lO (dM a b) K:=⟨_,wq ha hb hk rfl,h⟩
theorem uR {n:Int} {K:GRat->Prop} (hn:rng n) (h:Rp 64 (b_ (n:Rat)) (n:Rat)->K (b_ (n:Rat))):lO (eh n) K:=⟨_,m_ hn rfl,h (.of (sk hn) (by decide))⟩
end Go.Gg
namespace Go.Gg
def ja (k:Int) (n:Nat):Bool:=if k=0 then decide (n=0) else if k=1 then decide (n=1) else decide (1<=n/\n<=16)
def iI (f:GFormula) (i:Nat):Int:=
 if (at' f.Nodes (i:Int)).Kind<0\/5<(at' f.Nodes (i:Int)).Kind then 7
 else if ja (at' f.Nodes (i:Int)).Kind (at' f.Nodes (i:Int)).Args.length=false then 11
 else if ∃j<(at' f.Nodes (i:Int)).Args.length,at' (at' f.Nodes (i:Int)).Args (j:Int)<0\/f.Vars+i<=at' (at' f.Nodes (i:Int)).Args (j:Int) then 10
 else if (at' f.Nodes (i:Int)).Kind=0 then (if (at' f.Nodes (i:Int)).K≠0/\(at' f.Nodes (i:Int)).K≠1 then 3 else 0)
 else if (at' f.Nodes (i:Int)).Kind=4 then (if (at' f.Nodes (i:Int)).K<1\/((at' f.Nodes (i:Int)).Args.length:Int)<(at' f.Nodes (i:Int)).K then 3 else 0)
 else if (at' f.Nodes (i:Int)).K≠0 then 2 else 0
def kx (f:GFormula) (a:Int):Bool:=decide (0<=f.Vars/\0<=a/\(a<f.Vars\/a-f.Vars<f.Nodes.length))
def kY (f:GFormula):Int:=
 if f.Vars<0\/24<f.Vars then 3 else if 128<f.Nodes.length then 4
 else if iz (iI f) f.Nodes.length≠0 then iz (iI f) f.Nodes.length
 else if kx f f.Top=false then 10 else 0
theorem pz {k:Int} {n:Nat} (h:ja k n=true):n<=16:=by
 unfold ja at h
 split at h
 ·simp at h;omega
 ·split at h
  ·simp at h;omega
  ·simp at h;omega
theorem jt {k:Int} {n:Nat} {Q:Bool->Prop} (h:Q (ja k n)):ec k n Q:=by
 unfold ja at h
 refine cS (λhc=>?_) (λhc=>cS (λhc1=>?_) (λhc1=>condT (λh1=>?_) (λh1=>?_)))
 ·rw[if_pos hc] at h
  rw[show((n:Int) == 0)=decide (n=0) by rw[Bool.eq_iff_iff];simp];exact h
 ·rw[if_neg hc,if_pos hc1] at h
  rw[show((n:Int) == 1)=decide (n=1) by rw[Bool.eq_iff_iff];simp;omega];exact h
 ·rw[if_neg hc,if_neg hc1] at h
  rw[show decide ((n:Int)<=16)=decide (1<=n/\n<=16) from decide_eq_decide.2 om];exact h
 ·rw[if_neg hc,if_neg hc1,decide_eq_false om] at h;exact h
theorem js {f:GFormula} {i:Nat} {Q:Option Int->Prop} (hi:i<f.Nodes.length) (hV:0<=f.Vars/\f.Vars<=24) (hn:f.Nodes.length<=128) (h:Q (jO (iI f i))):eb f i Q:=by
 unfold iI at h
 refine⟨⟨by omega,by omega⟩,λy=>y=decide ((at' f.Nodes (i:Int)).Kind<0\/5<(at' f.Nodes (i:Int)).Kind),?_,?_⟩
 ·exact condT (λhc=>(decide_eq_true (Or.inl hc)).symm) (λhc=>decide_eq_decide.2 ⟨Or.inr,λhh=>hh.resolve_left hc⟩)
 rintro _ rfl
 refine condT (λhc=>?_) (λhc=>?_)
 ·rw[if_pos hc] at h;exact h
 rw[if_neg hc] at h
 refine jt (cx (λhb=>?_) (λhb=>?_))
 ·rw[if_pos (by simpa using hb)] at h;exact h
 simp only[Bool.not_eq_false'] at hb
 rw[if_neg (by rw[hb];simp)] at h
 have hl:=pz hb
 refine oY (λj=>at' (at' f.Nodes (i:Int)).Args (j:Int)<0\/f.Vars+i<=at' (at' f.Nodes (i:Int)).Args (j:Int)) om (λj next hj hI hnx=>?_) (λhall=>?_)
 ·refine⟨⟨by omega,by omega⟩,λy=>y=decide (at' (at' f.Nodes (i:Int)).Args (j:Int)<0\/f.Vars+i<=at' (at' f.Nodes (i:Int)).Args (j:Int)),?_,?_⟩
  ·exact condT (λhc2=>(decide_eq_true (Or.inl hc2)).symm) (λhc2=>⟨by unfold rng;omega,decide_eq_decide.2 ⟨Or.inr,λhh=>hh.resolve_left hc2⟩⟩)
  ·rintro _ rfl
   refine condT (λhb2=>?_) (λhb2=>hnx hb2)
   rw[if_pos ⟨j,hj,hb2⟩] at h;exact h
 rw[if_neg (by rintro⟨j,hj,hb2⟩;exact hall j hj hb2)] at h
 refine cS (λh0=>?_) (λh0=>?_)
 ·rw[if_pos h0] at h
  refine⟨λy=>y=decide ((at' f.Nodes (i:Int)).K≠0/\(at' f.Nodes (i:Int)).K≠1),?_,?_⟩
  ·refine gE (λhk=>?_) (λhk=>?_)
   ·show((at' f.Nodes (i:Int)).K != 1)=_
    rw[Bool.eq_iff_iff];simp[hk]
   ·rw[decide_eq_false (λhh=>hh.1 hk)]
  ·rintro _ rfl
   refine condT (λhk=>?_) (λhk=>?_)
   ·rw[if_pos hk] at h;exact h
   ·rw[if_neg hk] at h;exact h
 rw[if_neg h0] at h
 refine cS (λh4=>?_) (λh4=>?_)
 ·rw[if_pos h4] at h
  refine⟨λy=>y=decide ((at' f.Nodes (i:Int)).K<1\/((at' f.Nodes (i:Int)).Args.length:Int)<(at' f.Nodes (i:Int)).K),?_,?_⟩
  ·exact condT (λhk=>(decide_eq_true (Or.inl hk)).symm) (λhk=>decide_eq_decide.2 ⟨Or.inr,λhh=>hh.resolve_left hk⟩)
  ·rintro _ rfl
   refine condT (λhk=>?_) (λhk=>?_)
   ·rw[if_pos hk] at h;exact h
   ·rw[if_neg hk] at h;exact h
 rw[if_neg h4] at h
 refine gE (λhk=>?_) (λhk=>?_)
 ·rw[if_pos hk] at h;exact h
 ·rw[if_neg (λhh=>hh hk)] at h;exact h
theorem n6 {f:GFormula} {i:Nat} {Q:Int->Prop} (hi:i<f.Nodes.length) (hV:0<=f.Vars/\f.Vars<=24) (hn:f.Nodes.length<=128) (h:Q (iI f i)):ip f i Q:=by
 unfold iI at h
 have hf7:((at' f.Nodes (i:Int)).Kind≠0/\(at' f.Nodes (i:Int)).Kind≠1/\(at' f.Nodes (i:Int)).Kind≠2/\(at' f.Nodes (i:Int)).Kind≠3/\(at' f.Nodes (i:Int)).Kind≠4/\(at' f.Nodes (i:Int)).Kind≠5)->Q 7:=λhh=>by
  rw[if_pos om] at h;exact h
 refine⟨⟨by omega,by omega⟩,λy=>(0<=(at' f.Nodes (i:Int)).Kind/\(at' f.Nodes (i:Int)).Kind<=5)/\(0<=y.1/\y.1<=1/\0<=y.2/\y.2<=16)/\∀n:Nat,ja (at' f.Nodes (i:Int)).Kind n=decide (y.1<=n/\(n:Int)<=y.2),?_,?_⟩
 ·have hbig:∀n:Nat,(at' f.Nodes (i:Int)).Kind≠0->(at' f.Nodes (i:Int)).Kind≠1->ja (at' f.Nodes (i:Int)).Kind n=decide ((1:Int)<=n/\(n:Int)<=16):=λn h0 h1=>by
   rw[ja,if_neg h0,if_neg h1];exact decide_eq_decide.2 om
  refine cS (λh0:(at' f.Nodes (i:Int)).Kind=0=>⟨by omega,by decide,λn=>by rw[ja,if_pos h0];exact decide_eq_decide.2 (by dsimp only;omega)⟩) (λh0=>cS (λh1:(at' f.Nodes (i:Int)).Kind=1=>⟨by omega,by decide,λn=>by rw[ja,if_neg h0,if_pos h1];exact decide_eq_decide.2 (by dsimp only;omega)⟩) (λh1=>?_))
  exact cS (λh2:(at' f.Nodes (i:Int)).Kind=2=>⟨by omega,by decide,λn=>hbig n h0 h1⟩) (λh2=>cS (λh3:(at' f.Nodes (i:Int)).Kind=3=>⟨by omega,by decide,λn=>hbig n h0 h1⟩) (λh3=>cS (λh4:(at' f.Nodes (i:Int)).Kind=4=>⟨by omega,by decide,λn=>hbig n h0 h1⟩) (λh4=>cS (λh5:(at' f.Nodes (i:Int)).Kind=5=>⟨by omega,by decide,λn=>hbig n h0 h1⟩) (λh5=>hf7 ⟨h0,h1,h2,h3,h4,h5⟩))))
 rintro⟨lo,hi2⟩ ⟨hkind,hb,hargs⟩
 dsimp only at hb hargs
 rw[if_neg om] at h
 refine condT (λ(hc:((at' f.Nodes (i:Int)).Args.length:Int)<lo)=>?_) (λ(hc:¬((at' f.Nodes (i:Int)).Args.length:Int)<lo)=>condT (λ(hc2:hi2<((at' f.Nodes (i:Int)).Args.length:Int))=>?_) (λ(hc2:¬hi2<((at' f.Nodes (i:Int)).Args.length:Int))=>?_))
 ·rw[if_pos (by rw[hargs];exact decide_eq_false om)] at h;exact h
 ·rw[if_pos (by rw[hargs];exact decide_eq_false om)] at h;exact h
 rw[if_neg (by rw[hargs,decide_eq_true om];simp)] at h
 refine oY (n:=(at' f.Nodes (i:Int)).Args.length) (λj=>at' (at' f.Nodes (i:Int)).Args (j:Int)<0\/f.Vars+i<=at' (at' f.Nodes (i:Int)).Args (j:Int)) om (λj next hj hI hnx=>?_) (λhall=>?_)
 ·refine⟨⟨by omega,show(j:Int)<((at' f.Nodes (i:Int)).Args.length:Int) by omega⟩,condT (λhc3=>?_) (λhc3=>⟨by unfold rng;omega,condT (λhc4=>?_) (λhc4=>hnx (by rw[not_or];exact⟨hc3,hc4⟩))⟩)⟩
  ·rw[if_pos ⟨j,hj,Or.inl hc3⟩] at h;exact h
  ·rw[if_pos ⟨j,hj,Or.inr hc4⟩] at h;exact h
 rw[if_neg (by rintro⟨j,hj,hb2⟩;exact hall j hj hb2)] at h
 refine cS (λh0=>?_) (λh0=>?_)
 ·rw[if_pos h0] at h
  refine gE (λhk=>gE (λhk1=>?_) (λhk1=>?_)) (λhk=>?_)
  ·rw[if_pos ⟨hk,hk1⟩] at h;exact h
  ·rw[if_neg (λhh=>hh.2 hk1)] at h;exact h
  ·rw[if_neg (λhh=>hh.1 hk)] at h;exact h
 rw[if_neg h0] at h
 refine cS (λh4=>?_) (λh4=>?_)
 ·rw[if_pos h4] at h
  refine condT (λhk=>?_) (λhk=>condT (λhk2=>?_) (λhk2=>?_))
  ·rw[if_pos (Or.inl hk)] at h;exact h
  ·rw[if_pos (Or.inr hk2)] at h;exact h
  ·rw[if_neg (by rw[not_or];exact⟨hk,hk2⟩)] at h;exact h
 rw[if_neg h4] at h
 refine gE (λhk=>?_) (λhk=>?_)
 ·rw[if_pos hk] at h;exact h
 ·rw[if_neg (λhh=>hh hk)] at h;exact h
theorem iM {f:GFormula} {a:Int} {Q:Bool->Prop} (ha:rng a) (h:Q (kx f a)):f7 f a Q:=by
 unfold kx at h
 unfold rng at ha
 refine condT (λh1=>condT (λh2=>condT (λh3=>?_) (λh3=>⟨by unfold rng;omega,?_⟩)) (λh2=>?_)) (λh1=>?_)
 ·rw[decide_eq_true ⟨h1,h2,Or.inl h3⟩] at h;exact h
 ·rw[show decide (a-f.Vars<(f.Nodes.length:Int))=decide (0<=f.Vars/\0<=a/\(a<f.Vars\/a-f.Vars<f.Nodes.length)) from decide_eq_decide.2 om];exact h
 ·rw[decide_eq_false (λhh=>h2 hh.2.1)] at h;exact h
 ·rw[decide_eq_false (λhh=>h1 hh.1)] at h;exact h
theorem m9 {f:GFormula} {a:Int} {Q:Bool->Prop} (ha:rng a) (h:Q (kx f a)):gU f a Q:=iM ha h
theorem pn {e:Int}:(jO e).isSome=decide (e≠0):=by
 unfold jO
 by_cases h:e=0
 ·rw[if_pos h,decide_eq_false (λhh=>hh h)];rfl
 ·rw[if_neg h,decide_eq_true h];rfl
theorem eE {f:GFormula} {Q:Option Int->Prop} (ht:rng f.Top) (h:Q (jO (kY f))):cW f Q:=by
 unfold kY at h
 refine⟨λy=>y=decide (f.Vars<0\/24<f.Vars),?_,?_⟩
 ·exact condT (λhc=>(decide_eq_true (Or.inl hc)).symm) (λhc=>decide_eq_decide.2 ⟨Or.inr,λhh=>hh.resolve_left hc⟩)
 rintro _ rfl
 refine condT (λhc=>?_) (λhc=>?_)
 ·rw[if_pos hc] at h;exact h
 rw[if_neg hc] at h
 refine condT (λhc2=>?_) (λhc2=>?_)
 ·rw[if_pos om] at h;exact h
 rw[if_neg om] at h
 refine oY (λi=>iI f i≠0) om (λi next hi hI hnx=>?_) (λhall=>?_)
 ·refine js hi om om ?_
  rw[pn]
  refine condT (λhe=>?_) (λhe=>hnx he)
  rw[iy (λj hj=>Decidable.not_not.1 (hI j hj)) he _ hi,if_pos he] at h
  exact h
 ·rw[if_neg (λhh=>hh (cD.2 λj hj=>Decidable.not_not.1 (hall j hj)))] at h
  refine iM ht (cx (λhb=>?_) (λhb=>?_))
  ·rw[if_pos (by simpa using hb)] at h;exact h
  ·rw[if_neg (by simpa using hb)] at h;exact h
theorem jv {f:GFormula} {Q:Int->Prop} (ht:rng f.Top) (h:Q (kY f)):fD f Q:=by
 unfold kY at h
 refine condT (λhc=>?_) (λhc=>condT (λhc1=>?_) (λhc1=>?_))
 ·rw[if_pos (Or.inl hc)] at h;exact h
 ·rw[if_pos (Or.inr hc1)] at h;exact h
 rw[if_neg om] at h
 refine condT (λhc2=>?_) (λhc2=>?_)
 ·rw[if_pos om] at h;exact h
 rw[if_neg om] at h
 refine oY (λi=>iI f i≠0) om (λi next hi hI hnx=>?_) (λhall=>?_)
 ·refine n6 hi om om (gE (λhe=>?_) (λhe=>hnx (λhh=>hh he)))
  rw[iy (λj hj=>Decidable.not_not.1 (hI j hj)) he _ hi,if_pos he] at h
  exact h
 ·rw[if_neg (λhh=>hh (cD.2 λj hj=>Decidable.not_not.1 (hall j hj)))] at h
  refine m9 ht (cx (λhb=>?_) (λhb=>?_))
  ·rw[if_pos (by simpa using hb)] at h;exact h
  ·rw[if_neg (by simpa using hb)] at h;exact h
structure FG (f:GFormula):Prop where
 v0:0<=f.Vars
 v24:f.Vars<=24
 n128:f.Nodes.length<=128
 node:∀i,i<f.Nodes.length->iI f i=0
 top0:0<=f.Top
 top:f.Top<f.Vars+f.Nodes.length
theorem jQ {f:GFormula}:kY f=0↔FG f:=by
 unfold kY
 constructor
 ·intro h
  split at h
  ·cases h
  split at h
  ·cases h
  split at h
  ·rename_i h3;exact absurd h h3
  split at h
  ·cases h
  rename_i h1 h2 h3 h4
  rw[Decidable.not_not] at h3
  have h5:=cD.1 h3
  simp only[kx,Bool.not_eq_false,decide_eq_true_eq] at h4
  exact⟨by omega,by omega,by omega,h5,by omega,by omega⟩
 ·intro h
  rw[if_neg (by have:=h.v0;have:=h.v24;omega),if_neg (by have:=h.n128;omega),if_neg (λhh=>hh (cD.2 h.node)),if_neg]
  have:=h.v0;have:=h.top0;have:=h.top
  simp only[kx,Bool.not_eq_false,decide_eq_true_eq]
  omega
structure NG (f:GFormula) (i:Nat):Prop where
 k0:0<=(at' f.Nodes (i:Int)).Kind
 k5:(at' f.Nodes (i:Int)).Kind<=5
 len:(at' f.Nodes (i:Int)).Args.length<=16
 arg:∀j:Nat,j<(at' f.Nodes (i:Int)).Args.length->0<=at' (at' f.Nodes (i:Int)).Args (j:Int)/\at' (at' f.Nodes (i:Int)).Args (j:Int)<f.Vars+i
 args:ja (at' f.Nodes (i:Int)).Kind (at' f.Nodes (i:Int)).Args.length=true
theorem fN {f:GFormula} {i:Nat} (h:iI f i=0):NG f i:=by
 unfold iI at h
 split at h
 ·cases h
 split at h
 ·cases h
 split at h
 ·cases h
 rename_i h1 h2 h3
 refine⟨by omega,by omega,pz (by simpa using h2),λj hj=>?_,by simpa using h2⟩
 rw[not_exists] at h3
 have:=h3 j
 simp only[hj,true_and,not_or] at this
 omega
end Go.Gg
namespace Go.Gg
theorem py {α:Type} [Inhabited α] {l m:List α} {i:Int} (h0:0<=i) (h:i<l.length):at' (l++m) i=at' l i:=by
 obtain⟨k,rfl⟩:=Int.eq_ofNat_of_zero_le h0
 have:k<l.length:=om
 simp[at',List.getD_eq_getElem?_getD,List.getElem?_append,this]
theorem qh {α:Type} [Inhabited α] {l:List α} {x:α}:at' (l++[x]) (l.length:Int)=x:=by
 simp[at',List.getD_eq_getElem?_getD]
theorem lc {α:Type} [Inhabited α] {l:List α} {i:Nat} {x:α} {j:Nat} (h:i<l.length):at' (set' l (i:Int) x) (j:Int)=if j=i then x else at' l (j:Int):=by
 simp only[at',set',Int.toNat_natCast,List.getD_eq_getElem?_getD,List.getElem?_set]
 by_cases hij:i=j
 ·subst hij;simp[h]
 ·rw[if_neg hij,if_neg (λe=>hij e.symm)]
theorem cg {α:Type} {l:List α} {i:Int} {x:α}:(set' l i x).length=l.length:=by simp[set']
end Go.Gg
namespace Go.Gg
end Go.Gg
