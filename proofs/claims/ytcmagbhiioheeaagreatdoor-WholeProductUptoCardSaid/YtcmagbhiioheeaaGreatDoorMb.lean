/- Rates, unavailability. Conditions: the numbers fit the machine. -/
import Derived.Test.YtcmagbhiioheeaaGreatDoorMa
import Derived.Test.YtcmagbhiioheeaaGreatDoorWa
import Derived.Test.YtcmagbhiioheeaaGreatDoorGi
open List (append_assoc getElem_of_mem length_append length_map length_singleton map_append mem_append range range_succ take_length)
open Int (toNat toNat_natCast)
open Nat (add_mul div_eq_of_lt le_refl le_trans lt_of_lt_of_le lt_or_ge pow_add pow_pos pow_succ zero_le)
open Option (getD isSome)
namespace Go.Gg
def dq (x:GRat):Bool:=okR x && decide (0<=gi (aF x))
theorem kz {x:GRat} (h:dq x=true):0<=aF x:=by
 simp only[dq,Bool.and_eq_true,decide_eq_true_eq] at h
 have h2:=h.2
 unfold gi at h2
 refine Rat.num_nonneg.1 ?_
 split at h2
 ·omega
 ·split at h2
  ·omega
  ·omega
theorem iD {x:GRat} {Q:Bool->Prop} (fx:Fr x) (h:Q (dq x)):fp x Q:=by
 unfold dq at h
 refine fo fx (aJ (λhc=>?_) (λhc=>?_))
 ·rw[hc,Bool.true_and] at h
  exact da fx h
 ·rw[hc,Bool.false_and] at h;exact h
def Au (f r:GRat):GRat×Int:=
 if dq f=false\/dq r=false then (ay 0,3) else if aF f+aF r=0 then (ay 0,8) else (ay (aF f / (aF f+aF r)),0)
theorem iX {f r:GRat} {k:Nat} {Q:GRat->Option Int->Prop} (ff:Fr f) (fr:Fr r) (kf:RB k (aF f)) (kr:RB k (aF r)) (hk:3*k+2<=35184372088000)
  (h:Q (Au f r).1 (mF (Au f r).2)):eQ f r Q:=by
 unfold Au at h
 refine⟨λx=>x=decide (dq f=false\/dq r=false),?_,?_⟩
 ·refine iD ff (aJ (λhc=>?_) (λhc=>iD fr ?_))
  ·simp only[Bool.not_eq_true'] at hc;simp[hc]
  ·simp only[Bool.not_eq_false'] at hc;rw[hc];cases dq r<;>rfl
 ·rintro _ rfl
  refine condT (λhc=>?_) (λhc=>?_)
  ·rw[if_pos hc] at h;exact h
  ·rw[if_neg hc] at h
   have ks:=qA kf kr
   by_cases hz:aF f+aF r=0
   ·rw[if_pos hz] at h
    refine⟨_,iC ff fr kf kr om rfl,_,_,lk ff (eZ ks om) kf (by rw[aU];exact ks) om (λ_=>⟨rfl,rfl⟩) (λhh=>absurd (by rw[aU];exact hz) hh),h⟩
   ·rw[if_neg hz] at h
    refine⟨_,iC ff fr kf kr om rfl,_,_,lk ff (eZ ks om) kf (by rw[aU];exact ks) om (λhh=>absurd hh (by rw[aU];exact hz)) (λ_=>⟨rfl,rfl⟩),?_⟩
    rw[aU];exact h
def Frs (k:Nat) (l:List GRat):Prop:=∀i:Nat,i<l.length->Fr (at' l (i:Int))/\RB k (aF (at' l (i:Int)))
theorem lL {α:Type} [Inhabited α] {f:Nat->α} {n i:Nat} (h:i<n):at' ((range n).map f) (i:Int)=f i:=by
 simp[at',List.getD_eq_getElem?_getD,h]
def jg (f r:List GRat):Int:=
 if f.length≠r.length\/f.length=0 then 11 else if 8<f.length then 4
 else if ∃i<f.length,dq (at' f (i:Int))=false\/dq (at' r (i:Int))=false then 3
 else if ∃i<f.length,aF (at' f (i:Int))+aF (at' r (i:Int))=0 then 8 else 0
theorem o_ {q:Rat}:gi q=0↔q=0:=by
 unfold gi
 constructor
 ·intro h
  split at h
  ·rename_i h0;exact Rat.num_eq_zero.1 h0
  ·split at h<;>omega
 ·rintro rfl;rfl
theorem FD {p q:Rat} (hp:0<=p) (hq:0<=q):p+q=0↔p=0/\q=0:=by
 constructor
 ·intro h
  have h1:p<=p+q:=by
   have:=Rat.add_le_add_left (c:=p).2 hq
   rwa[Rat.add_zero] at this
  rw[h] at h1
  have hp0:p=0:=Rat.le_antisymm h1 hp
  rw[hp0,Rat.zero_add] at h
  exact⟨hp0,h⟩
 ·rintro⟨rfl,rfl⟩;exact Rat.zero_add 0
theorem nW {f r:List GRat} {k:Nat} {Q:Option Int->Prop} (hf:Frs k f) (hr:Frs k r) (h:Q (mF (jg f r))):gY f r Q:=by
 refine⟨λx=>x=decide (f.length≠r.length\/f.length=0),?_,?_⟩
 ·refine ga (λhc=>?_) (λhc=>?_)
  ·rw[decide_eq_true (Or.inl om)]
  ·by_cases h0:f.length=0
   ·rw[decide_eq_true (Or.inr h0)];simp;exact List.eq_nil_of_length_eq_zero h0
   ·rw[decide_eq_false om];simp;intro hh;exact h0 (by rw[hh];rfl)
 ·rintro _ rfl
  unfold jg at h
  refine condT (λhc=>?_) (λhc=>?_)
  ·rw[if_pos hc] at h;exact h
  rw[if_neg hc] at h
  refine condT (λhc2=>?_) (λhc2=>?_)
  ·rw[if_pos om] at h;exact h
  rw[if_neg om] at h
  have hl:f.length=r.length:=om
  refine⟨λx=>∃i:Nat,x=i/\i<=f.length/\∀j:Nat,j<i->dq (at' f (j:Int))=true/\dq (at' r (j:Int))=true,λx=>f.length-x.toNat,⟨0,rfl,om,λj hj=>absurd hj om⟩,?_⟩
  rintro _ ⟨i,rfl,hi,hI⟩
  refine condT (λhi2=>?_) (λhi2=>?_)
  ·have hi3:i<f.length:=om
   refine⟨λx=>x=decide (dq (at' f (i:Int))=false\/dq (at' r (i:Int))=false),⟨⟨om,hi2⟩,iD (hf i hi3).1 (aJ (λhb=>?_) (λhb=>⟨⟨om,om⟩,iD (hr i om).1 ?_⟩))⟩,?_⟩
   ·simp only[Bool.not_eq_true'] at hb;simp[hb]
   ·simp only[Bool.not_eq_false'] at hb;rw[hb];cases dq (at' r (i:Int))<;>rfl
   ·rintro _ rfl
    refine condT (λhb=>?_) (λhb=>⟨zRg,⟨i+1,om,om,λj hj=>?_⟩,by dsimp only;omega⟩)
    ·rw[if_pos ⟨i,hi3,hb⟩] at h;exact h
    ·rcases lt_or_ge j i with h1 | h1
     ·exact hI j h1
     ·obtain rfl:j=i:=om
      rw[not_or] at hb
      exact⟨by simpa using hb.1,by simpa using hb.2⟩
  ·have hall:∀j:Nat,j<f.length->dq (at' f (j:Int))=true/\dq (at' r (j:Int))=true:=λj hj=>hI j om
   rw[if_neg (by
    rintro⟨j,hj,hb⟩
    have:=hall j hj
    rw[this.1,this.2] at hb
    rcases hb with hb | hb<;>cases hb)] at h
   refine⟨λx=>∃i:Nat,x=i/\i<=f.length/\∀j:Nat,j<i->aF (at' f (j:Int))+aF (at' r (j:Int))≠0,λx=>f.length-x.toNat,⟨0,rfl,om,λj hj=>absurd hj om⟩,?_⟩
   rintro _ ⟨i,rfl,hi,hI⟩
   refine condT (λhi2=>?_) (λhi2=>?_)
   ·have hi3:i<f.length:=om
    have hz:=FD (kz (hall i hi3).1) (kz (hall i hi3).2)
    refine⟨λx=>x=decide (aF (at' f (i:Int))+aF (at' r (i:Int))=0),⟨⟨om,hi2⟩,da (hf i hi3).1 (bv (λhb=>⟨⟨om,om⟩,da (hr i om).1 ?_⟩) (λhb=>?_))⟩,?_⟩
    ·rw[o_] at hb
     by_cases hr0:aF (at' r (i:Int))=0
     ·rw[decide_eq_true (hz.2 ⟨hb,hr0⟩)];simpa using o_.2 hr0
     ·rw[decide_eq_false (λe=>hr0 (hz.1 e).2)];simpa using λe=>hr0 (o_.1 e)
    ·rw[decide_eq_false (λe=>hb (o_.2 (hz.1 e).1))]
    ·rintro _ rfl
     refine condT (λhb=>?_) (λhb=>⟨zRg,⟨i+1,om,om,λj hj=>?_⟩,by dsimp only;omega⟩)
     ·rw[if_pos ⟨i,hi3,hb⟩] at h;exact h
     ·rcases lt_or_ge j i with h1 | h1
      ·exact hI j h1
      ·obtain rfl:j=i:=om
       exact hb
   ·rw[if_neg (by
     rintro⟨j,hj,hb⟩
     exact hI j om hb)] at h
    exact h
theorem vv {f r:List GRat} (h:jg f r=0):f.length=r.length/\0<f.length/\f.length<=8/\∀i:Nat,i<f.length->(dq (at' f (i:Int))=true/\dq (at' r (i:Int))=true)/\aF (at' f (i:Int))+aF (at' r (i:Int))≠0:=by
 unfold jg at h
 split at h
 ·cases h
 split at h
 ·cases h
 split at h
 ·cases h
 split at h
 ·cases h
 rename_i h1 h2 h3 h4
 refine⟨om,om,om,λi hi=>⟨⟨?_,?_⟩,λe=>h4 ⟨i,hi,e⟩⟩⟩
 ·cases hb:dq (at' f (i:Int)) with
  | true=>rfl
  | false=>exact absurd ⟨i,hi,Or.inl hb⟩ h3
 ·cases hb:dq (at' r (i:Int)) with
  | true=>rfl
  | false=>exact absurd ⟨i,hi,Or.inr hb⟩ h3
def pr (u:Nat->Rat):Nat->Nat->Rat
 | 0,_=>1
 | n+1,x=>pr u n x*(if x / 2^n % 2=0 then 1-u n else u n)
theorem AG {u:Nat->Rat} {m c x:Nat}:∀n,n<=m->pr u n (2^m*c+x)=pr u n x
 | 0,_=>rfl
 | n+1,h=>by
  rw[pr,pr,AG n om]
  have e:(2^m*c+x) / 2^n % 2=x / 2^n % 2:=by
   have h1:2^m=2^n*(2*2^(m-n-1)):=by
    rw[<-Nat.pow_succ',<-pow_add];congr 1;omega
   rw[h1,Nat.mul_assoc,Nat.mul_add_div (pow_pos om),Nat.mul_assoc,Nat.mul_add_mod]
  rw[e]
def Lst (u:Nat->Rat) (n:Nat):List GRat:=(range (2^n)).map λx=>ay (pr u n x)
theorem nS {u:Nat->Rat} {n:Nat}:(Lst u n).length=2^n:=by simp[Lst]
theorem Hd {u:Nat->Rat} {n:Nat}:(range (2^n)).map (λx=>ay (pr u n x*(1-u n)))++(range (2^n)).map (λx=>ay (pr u n x*u n))=Lst u (n+1):=by
 unfold Lst
 rw[pow_succ,Nat.mul_two,List.range_add,map_append,List.map_map]
 congr 1
 ·refine List.map_congr_left λx hx=>?_
  rw[List.mem_range] at hx
  rw[pr,div_eq_of_lt hx,if_pos rfl]
 ·refine List.map_congr_left λx hx=>?_
  rw[List.mem_range] at hx
  have h1:=AG (u:=u) (m:=n) (c:=1) (x:=x) n (le_refl n)
  rw[Nat.mul_one] at h1
  show _=ay (pr u (n+1) (2^n+x))
  rw[pr,h1,Nat.add_div_left _ (pow_pos om),div_eq_of_lt hx,if_neg om]
def ba (f r:List GRat) (i:Nat):Rat:=aF (at' f (i:Int)) / (aF (at' f (i:Int))+aF (at' r (i:Int)))
theorem Bo {f r:GRat} (h1:dq f=true) (h2:dq r=true) (h3:aF f+aF r≠0):Au f r=(ay (aF f / (aF f+aF r)),0):=by
 unfold Au
 rw[if_neg (by rw[h1,h2];simp),if_neg h3]
theorem yv {k:Nat} (hk:1<=k):RB k 1:=Hb (n:=1) hk (by
 have:2^1<=2^k:=Nat.pow_le_pow_right om hk
 show 1<2^k
 omega)
theorem NK {u:Nat->Rat} {c n:Nat} (_hc:1<=c) (h:∀i,i<n->RB c (u i)/\RB c (1-u i)) (x:Nat):RB (n*c+1) (pr u n x):=by
 induction n with
 | zero=>exact yv om
 | succ n ih=>
  rw[pr]
  refine(sF (ih (λi hi=>h i om)) (l:=c) ?_).mono (by rw[add_mul];omega)
  split
  ·exact(h n om).2
  ·exact(h n om).1
def y_ (f r:List GRat):List GRat×Int:=if jg f r=0 then (Lst (ba f r) f.length,0) else ([],jg f r)
theorem xB {f r:List GRat} {k:Nat} (_hk:1<=k) (hf:Frs k f) (hr:Frs k r) (hl:f.length=r.length) {i:Nat} (hi:i<f.length):RB (3*k+3) (ba f r i)/\RB (3*k+3) (1-ba f r i):=by
 have h1:RB (3*k+1) (ba f r i):=(yw (hf i hi).2 (qA (hf i hi).2 (hr i om).2)).mono om
 exact⟨h1.mono om,(sD (yv (k:=1) om) h1).mono om⟩
theorem gn {n:Nat} (h:n<=8):2^n<=256:=le_trans (Nat.pow_le_pow_right om h) (by decide)
set_option maxHeartbeats 1000000 in
theorem oC {f r:List GRat} {k:Nat} {Q:List GRat->Option Int->Prop} (hk1:1<=k) (hk:k<=1000000000) (hf:Frs k f) (hr:Frs k r) (h:Q (y_ f r).1 (mF (y_ f r).2)):gl f r Q:=by
 refine nW hf hr ?_
 unfold y_ at h
 by_cases he:jg f r=0
 ·rw[if_pos he] at h
  rw[he]
  obtain⟨hl,h0,h8,hall⟩:=vv he
  have hu:=λi (hi:i<f.length)=>xB hk1 hf hr hl hi
  refine⟨λhh=>(by cases hh),λ_=>ju zRg ?_⟩
  refine⟨λy=>∃i:Nat,i<=f.length/\y=(Lst (ba f r) i,(i:Int)),λy=>f.length-y.2.toNat,⟨0,om,rfl⟩,?_⟩
  rintro _ ⟨i,hi,rfl⟩
  refine condT (λhi2=>?_) (λhi2=>?_)
  ·have hi3:i<f.length:=om
   refine⟨⟨om,hi2⟩,⟨om,om⟩,_,_,iX (hf i hi3).1 (hr i om).1 (hf i hi3).2 (hr i om).2 om ⟨rfl,rfl⟩,?_⟩
   rw[Bo (hall i hi3).1.1 (hall i hi3).1.2 (hall i hi3).2]
   refine⟨λhh=>(by cases hh),λ_=>?_⟩
   have hprb:=λx=>NK (u:=ba f r) (c:=3*k+3) (n:=i) om (λj hj=>hu j om) x
   have hub:=hu i hi3
   have hB:i*(3*k+3)+1<=8*(3*k+3)+1:=by
    have:=Nat.mul_le_mul_right (3*k+3) (show i<=8 by omega)
    omega
   have hp:=gn (show i<=8 by omega)
   refine⟨λy=>∃j:Nat,j<=2^i/\y=((j:Int),(range j).map (λx=>ay (pr (ba f r) i x*ba f r i)),(range j).map (λx=>ay (pr (ba f r) i x*(1-ba f r i)))),λy=>2^i-y.1.toNat,⟨0,zero_le _,rfl⟩,?_⟩
   rintro _ ⟨j,hj,rfl⟩
   refine condT (λhj2=>?_) (λhj2=>?_)
   ·rw[nS] at hj2
    have hj3:j<2^i:=om
    have hat:at' (Lst (ba f r) i) (j:Int)=ay (pr (ba f r) i j):=lL hj3
    have hpj:=(hprb j).mono hB
    refine⟨⟨om,by rw[nS];omega⟩,?_⟩
    rw[hat]
    refine lj (eZ hpj om) (eZ hub.1 om) (by rw[aU];exact hpj) (by rw[aU];exact hub.1) om ?_
    rw[aU]
    refine⟨by simp;omega,_,ju zRg rfl,_,lh (k:=1) (eZ (yv (k:=1) om) om) (eZ hub.1 om) (by rw[aU];exact yv om) (by rw[aU];exact hub.1) om rfl,?_⟩
    rw[aU,aU]
    refine⟨_,lj (eZ hpj om) (eZ hub.2 om) (by rw[aU];exact hpj) (by rw[aU];exact hub.2) om rfl,by simp;omega,zRg,⟨j+1,hj3,?_⟩,by dsimp only;omega⟩
    rw[range_succ,map_append,map_append,aU]
    simp only[aU]
    rfl
   ·rw[nS] at hj2
    obtain rfl:j=2^i:=om
    refine⟨by simp;omega,zRg,⟨i+1,hi3,?_⟩,by dsimp only;omega⟩
    rw[Hd]
    rfl
  ·obtain rfl:i=f.length:=om
   exact h
 ·rw[if_neg he] at h
  have e:mF (jg f r)=some (jg f r):=if_neg he
  rw[e] at h ⊢
  exact⟨λ_=>h,λhh=>(by cases hh)⟩
theorem Do {y:Int} (h0:0<=y) (h1:y<4294967296):bits .and .i64 y 1=y % 2:=by
 obtain⟨m,rfl⟩:=Int.eq_ofNat_of_zero_le h0
 show IntKind.i64.wrap (((BitVec.ofInt 64 (m:Int)) &&& (BitVec.ofInt 64 1)).toNat:Int)=_
 rw[BitVec.toNat_and,BitVec.toNat_ofInt,BitVec.toNat_ofInt]
 have e1:((m:Int) % ((2^64:Nat):Int)).toNat=m:=om
 have e2:((1:Int) % ((2^64:Nat):Int)).toNat=1:=om
 rw[e1,e2,Nat.and_one_is_mod]
 have e3:m % 2=0\/m % 2=1:=om
 have e4:(m:Int) % 2=((m % 2:Nat):Int):=om
 rw[e4]
 rcases e3 with e | e<;>rw[e]<;>rfl
theorem NI {u:Nat->Rat} {n i:Nat} (hi:i<2^n):pr u (n+1) i=pr u n i*(1-u n):=by rw[pr,div_eq_of_lt hi,if_pos rfl]
theorem NJ {u:Nat->Rat} {n i:Nat} (hi:i<2^n):pr u (n+1) (2^n+i)=pr u n i*u n:=by
 have h1:=AG (u:=u) (m:=n) (c:=1) (x:=i) n (le_refl n)
 rw[Nat.mul_one] at h1
 rw[pr,h1,Nat.add_div_left _ (pow_pos om),div_eq_of_lt hi,if_neg om]
theorem oY {u:Nat->Rat}:∀n,aB (pr u n) (2^n)=1
 | 0=>by rw[show 2^0=1 from rfl,aB,aB,pr,Rat.zero_add]
 | n+1=>by
  rw[pow_succ,Nat.mul_two,rN]
  have e1:aB (pr u (n+1)) (2^n)=aB (λi=>pr u n i*(1-u n)) (2^n):=aX _ λi hi=>NI hi
  have e2:aB (λi=>pr u (n+1) (2^n+i)) (2^n)=aB (λi=>pr u n i*u n) (2^n):=aX _ λi hi=>NJ hi
  rw[e1,e2,kG,kG,oY n,Rat.one_mul,Rat.one_mul]
  grind
theorem rS {n:Nat} (h:n<=8):(1*2^(toNat (n:Int)):Int)=((2^n:Nat):Int)/\rng (1*2^(toNat (n:Int))):=by
 have hp:=gn h
 have e:(1*2^(toNat (n:Int)):Int)=((2^n:Nat):Int):=by rw[toNat_natCast,Int.one_mul];simp
 refine⟨e,?_⟩
 rw[e]
 generalize 2^n=N at hp
 unfold rng;omega
theorem GW {x k:Nat} (hx:x<256):(bits .and .i64 ((x:Int) / 2^(toNat (k:Int))) 1)=((x / 2^k % 2:Nat):Int):=by
 have e:((x:Int) / 2^(toNat (k:Int)))=((x / 2^k:Nat):Int):=by rw[toNat_natCast];simp
 have:=Nat.div_le_self x (2^k)
 rw[e]
 generalize x / 2^k=z at this
 rw[Do om om]
 omega
theorem yx {u:Nat->Rat} {n i:Nat} (h:i<2^n):at' (Lst u n) (i:Int)=ay (pr u n i):=lL h
def flp (s i:Nat):Nat:=if s / 2^i % 2=1 then s-2^i else s+2^i
def cM (f r:List GRat) (s i:Nat):GRat:=if s / 2^i % 2=1 then at' r (i:Int) else at' f (i:Int)
def iG (f r:List GRat) (s i:Nat):Bool:=decide (0<gi (aF (cM f r s i)))
def itm (f r:List GRat) (s i:Nat):GMove:=⟨(s:Int),(flp s i:Int),cM f r s i⟩
def dnP (f r:List GRat) (s n:Nat):Nat->List GMove
 | 0=>[]
 | k+1=>dnP f r s n k++(if s / 2^(n-1-k) % 2=1/\iG f r s (n-1-k)=true then [itm f r s (n-1-k)] else [])
def up (f r:List GRat) (s:Nat):Nat->List GMove
 | 0=>[]
 | k+1=>up f r s k++(if s / 2^k % 2=0/\iG f r s k=true then [itm f r s k] else [])
def ri (f r:List GRat) (s t:Nat):Nat->List GMove
 | 0=>[]
 | k+1=>ri f r s t k++(if t=flp s k/\iG f r s k=true then [itm f r s k] else [])
def rt (f r:List GRat) (s n:Nat):Nat->List GMove
 | 0=>[]
 | t+1=>rt f r s n t++ri f r s t n
def mvs (f r:List GRat) (n:Nat):Nat->List GMove
 | 0=>[]
 | s+1=>mvs f r n s++(dnP f r s n n++up f r s n)
theorem UV {s i:Nat} (h:s / 2^i % 2=1):2^i<=s:=by
 rcases lt_or_ge s (2^i) with h1 | h1
 ·rw[div_eq_of_lt h1] at h;cases h
 ·exact h1
theorem F0 {i j:Nat} (h:i<j):2^i<2^j:=Nat.pow_lt_pow_right om h
theorem mV {s i:Nat} (h:s / 2^i % 2=1):flp s i+2^i=s:=by
 have:=UV h
 rw[flp,if_pos h];omega
theorem qn {s i:Nat} (h:s / 2^i % 2=0):flp s i=s+2^i:=by rw[flp,if_neg om]
theorem pS (s i:Nat):s / 2^i % 2=1\/s / 2^i % 2=0:=om
section
variable {f r:List GRat} {s n:Nat}
def Srt (l:List GMove):Prop:=l.Pairwise λa b=>a.To<b.To
theorem zW:∀k,k<=n->∀m∈dnP f r s n k,∃i,n-k<=i/\i<n/\s / 2^i % 2=1/\m=itm f r s i/\iG f r s i=true
 | 0,_,m,hm=>by simp[dnP] at hm
 | k+1,hk,m,hm=>by
  rw[dnP,mem_append] at hm
  rcases hm with hm | hm
  ·obtain⟨i,h1,h2,h3⟩:=zW k om m hm
   exact⟨i,om,h2,h3⟩
  ·split at hm
   ·rename_i hc
    exact⟨n-1-k,om,om,hc.1,by simpa using hm,hc.2⟩
   ·simp at hm
theorem yJ:∀k,∀m∈up f r s k,∃i,i<k/\s / 2^i % 2=0/\m=itm f r s i/\iG f r s i=true
 | 0,m,hm=>by simp[up] at hm
 | k+1,m,hm=>by
  rw[up,mem_append] at hm
  rcases hm with hm | hm
  ·obtain⟨i,h1,h3⟩:=yJ k m hm
   exact⟨i,om,h3⟩
  ·split at hm
   ·rename_i hc
    exact⟨k,om,hc.1,by simpa using hm,hc.2⟩
   ·simp at hm
theorem GJ:∀k,k<=n->Srt (dnP f r s n k)
 | 0,_=>List.Pairwise.nil
 | k+1,hk=>by
  unfold Srt
  rw[dnP,List.pairwise_append]
  refine⟨GJ k om,by split<;>simp,λa ha b hb=>?_⟩
  split at hb
  ·rename_i hc
   obtain⟨i,h1,h2,h3,rfl,_⟩:=zW k om a ha
   obtain rfl:b=itm f r s (n-1-k):=by simpa using hb
   have e1:=mV h3
   have e2:=mV hc.1
   have:=F0 (show n-1-k<i by omega)
   show(flp s i:Int)<(flp s (n-1-k):Int)
   omega
  ·simp at hb
theorem Fj:∀k,Srt (up f r s k)
 | 0=>List.Pairwise.nil
 | k+1=>by
  unfold Srt
  rw[up,List.pairwise_append]
  refine⟨Fj k,by split<;>simp,λa ha b hb=>?_⟩
  split at hb
  ·rename_i hc
   obtain⟨i,h1,h3,rfl,_⟩:=yJ k a ha
   obtain rfl:b=itm f r s k:=by simpa using hb
   have e1:=qn h3
   have e2:=qn hc.1
   have:=F0 h1
   show(flp s i:Int)<(flp s k:Int)
   omega
  ·simp at hb
theorem Jq:Srt (dnP f r s n n++up f r s n):=by
 unfold Srt
 rw[List.pairwise_append]
 refine⟨GJ n (le_refl n),Fj n,λa ha b hb=>?_⟩
 obtain⟨i,_,_,h3,rfl,_⟩:=zW n (le_refl n) a ha
 obtain⟨j,_,h4,rfl,_⟩:=yJ n b hb
 have e1:=mV h3
 have e2:=qn h4
 have hi:0<2^i:=pow_pos om
 have hj:0<2^j:=pow_pos om
 show(flp s i:Int)<(flp s j:Int)
 omega
theorem vJ {i:Nat} (hs:s<2^n) (hi:i<n):flp s i<2^n:=by
 rcases pS s i with h | h
 ·have:=mV h
  have h0:0<2^i:=pow_pos om
  omega
 ·rw[qn h]
  have e:2^n=2^i*(2*2^(n-i-1)):=by
   rw[<-Nat.pow_succ',<-pow_add];congr 1;omega
  have h0:0<2^i:=pow_pos om
  have h1:=Nat.div_add_mod s (2^i)
  have h2:=Nat.mod_lt s h0
  have h3:s / 2^i<2*2^(n-i-1):=by
   rw[Nat.div_lt_iff_lt_mul h0,Nat.mul_comm];omega
  have h4:s / 2^i+1<2*2^(n-i-1):=om
  have h5:2^i*(s / 2^i+2)<=2^i*(2*2^(n-i-1)):=Nat.mul_le_mul_left _ om
  rw[Nat.mul_add] at h5
  omega
theorem yk:∀k,(dnP f r s n k).length<=k
 | 0=>le_refl _
 | k+1=>by have:=yk k;rw[dnP,length_append];split<;>simp<;>omega
theorem At:∀k,(up f r s k).length<=k
 | 0=>le_refl _
 | k+1=>by have:=At k;rw[up,length_append];split<;>simp<;>omega
theorem x_:∀S,(mvs f r n S).length<=S*(n+n)
 | 0=>by simp[mvs]
 | S+1=>by
  have:=x_ S
  have:=yk (f:=f) (r:=r) (s:=S) (n:=n) n
  have:=At (f:=f) (r:=r) (s:=S) n
  rw[mvs,length_append,length_append,add_mul];omega
end
set_option maxRecDepth 10000 in
theorem Ae:∀s:Nat,s<256->∀i:Nat,i<8->
  (s / 2^i % 2=1->bits .andNot .i64 (s:Int) (1*2^i)=((s-2^i:Nat):Int))/\(s / 2^i % 2=0->bits .or .i64 (s:Int) (1*2^i)=((s+2^i:Nat):Int))/\bits .xor .i64 (s:Int) (1*2^i)=((flp s i:Nat):Int):=by decide +kernel
def vU (f r:List GRat) (φ:GFormula):GChain×Int:=
 if jg f r≠0 then (⟨0,0,[],[]⟩,jg f r) else if jQ φ≠0 then (⟨0,0,[],[]⟩,jQ φ) else if φ.A≠(f.length:Int) then (⟨0,0,[],[]⟩,11)
 else (⟨((2^f.length:Nat):Int),0,mvs f r f.length (2^f.length),(range (2^f.length)).map (FV φ)⟩,0)
theorem qS {x:GRat} (h:dq x=true):okR x=true:=by
 unfold dq at h
 simp only[Bool.and_eq_true] at h
 exact h.1
theorem Jh {φ:GFormula} {n s:Nat} (hc:jQ φ=0) (hv:φ.A=(n:Int)) (hs:s<2^n):wz φ (s:Int)=0:=by
 unfold wz
 rw[if_neg (λhh=>hh hc),if_neg]
 have e:φ.A.toNat=n:=om
 rw[e]
 have e2:((2^n:Nat):Int)=(2^n:Int):=by simp
 rw[<-e2]
 omega
theorem C8 {f r:List GRat} {n s:Nat} (h8:n<=8) (hs:s<=256):(mvs f r n s).length<=4096:=by
 have h1:=x_ (f:=f) (r:=r) (n:=n) s
 have h2:=Nat.mul_le_mul hs (show n+n<=16 by omega)
 omega
theorem H' {f r:List GRat} {s i:Nat} (hb:s / 2^i % 2=0):(iG f r s i=true)=(0<gi (aF (at' f (i:Int)))):=by
 unfold iG cM
 rw[if_neg om]
 simp
theorem H_ {f r:List GRat} {s i:Nat} (hb:s / 2^i % 2=1):(iG f r s i=true)=(0<gi (aF (at' r (i:Int)))):=by
 unfold iG cM
 rw[if_pos hb]
 simp
theorem Ci (a:GRat):(⟨a.U,a.L,a.W⟩:GRat)=a:=rfl
set_option maxHeartbeats 1000000 in
theorem tx {f r:List GRat} {φ:GFormula} {k:Nat} {Q:GChain->Option Int->Prop} (hk:k<=1000000000) (hf:Frs k f) (hr:Frs k r) (ht:rng φ.Z) (h:Q (vU f r φ).1 (mF (vU f r φ).2)):jX f r φ Q:=by
 refine nW hf hr ?_
 unfold vU at h
 rw[ir]
 refine condT (λhc=>?_) (λhc=>?_)
 ·rw[if_pos hc] at h;exact h
 rw[if_neg hc] at h
 obtain⟨hl,h0,h8,hall⟩:=vv (Classical.not_not.1 hc)
 refine eV ht ?_
 rw[ir]
 refine condT (λhc2=>?_) (λhc2=>?_)
 ·rw[if_pos hc2] at h;exact h
 rw[if_neg hc2] at h
 refine ga (λhv=>?_) (λhv=>?_)
 ·rw[if_pos hv] at h;exact h
 rw[if_neg (λhh=>hh hv)] at h
 obtain⟨e,hrg⟩:=rS h8
 have hp:=gn h8
 rw[e] at hrg ⊢
 refine⟨⟨⟨om,om⟩,hrg⟩,⟨⟨om,om⟩,hrg⟩,?_⟩
 refine ig (n:=2^f.length) (λs=>((s:Int),(range s).map (FV φ),mvs f r f.length s)) (λy=>y.1) 0 (λs=>by dsimp only;omega) rfl ?_ ?_
 ·intro s next hs hn
  have h256:s<256:=lt_of_lt_of_le hs hp
  have hml:=C8 (f:=f) (r:=r) h8 (show s<=256 by omega)
  refine condT (λhc3=>?_) (λhc3=>absurd (Int.ofNat_lt.2 hs) hc3)
  refine tI ht (λhh=>absurd (Jh (Classical.not_not.1 hc2) hv hs) hh) (λ_=>aJ (λhh=>by cases hh) (λ_=>⟨?_,zRg,?_⟩))
  ·rw[length_append,length_map,List.length_range];simp;omega
  rw[toNat_natCast]
  refine ig (n:=f.length) (λk=>((f.length:Int)-1-k,mvs f r f.length s++dnP f r s f.length k)) (λy=>- y.1) (1-f.length) (λk=>by dsimp only;omega) (by simp[dnP]) ?_ ?_
  ·intro k next2 hk2 hn2
   obtain⟨i,hi⟩:∃i:Nat,(f.length:Int)-1-k=i:=⟨f.length-1-k,om⟩
   have hik:f.length-1-k=i:=om
   have hin:i<f.length:=om
   have hdl:=yk (f:=f) (r:=r) (s:=s) (n:=f.length) k
   have e3:(f.length:Int)-1-((k+1:Nat):Int)=(i:Int)-1:=om
   rw[dnP,hik,<-append_assoc,e3] at hn2
   rw[hi]
   refine condT (λ_=>?_) (λhh=>absurd (show(0:Int)<=(i:Int) by omega) hh)
   refine⟨λy=>y=decide (s / 2^i % 2=1/\iG f r s i=true),⟨⟨om,om⟩,?_⟩,?_⟩
   ·rw[GW h256]
    refine bv (λhb=>⟨⟨om,om⟩,da (hr i om).1 ?_⟩) (λhb=>?_)
    ·have hb1:s / 2^i % 2=1:=Int.ofNat.inj hb
     refine decide_eq_decide.2 ?_
     rw[H_ hb1]
     exact⟨λhh=>⟨hb1,hh⟩,λhh=>hh.2⟩
    ·exact(decide_eq_false (λhh=>hb (by rw[hh.1];rfl))).symm
   ·rintro _ rfl
    refine condT (λhc4=>?_) (λhc4=>?_)
    ·rw[if_pos hc4] at hn2
     have hrx:cM f r s i=at' r (i:Int):=if_pos hc4.1
     have hok:=nF (qS (hall i hin).1.2)
     refine⟨⟨⟨om,om⟩,(rS (n:=i) om).2⟩,⟨om,om⟩,oU (.self (hr i om).1 (hr i om).2) (.zero (k:=1) om (by decide)) (by simp only[cap];omega) λ_=>⟨?_,zRg,?_⟩⟩
     ·rw[length_append,length_append];simp;omega
     ·rw[Ci,Rat.add_zero,<-hok,toNat_natCast,(Ae s h256 i om).1 hc4.1]
      rw[itm,hrx,flp,if_pos hc4.1] at hn2
      exact hn2
    ·rw[if_neg hc4,List.append_nil] at hn2
     exact⟨zRg,hn2⟩
  ·intro next2
   have hdl:=yk (f:=f) (r:=r) (s:=s) (n:=f.length) f.length
   refine condT (λhh=>absurd hh om) (λ_=>?_)
   refine ig (n:=f.length) (λk=>((k:Int),(mvs f r f.length s++dnP f r s f.length f.length)++up f r s k)) (λy=>y.1) 0 (λk=>by dsimp only;omega) (by simp[up]) ?_ ?_
   ·intro i next3 hin hn3
    have hul:=At (f:=f) (r:=r) (s:=s) i
    rw[up,<-append_assoc] at hn3
    refine condT (λ_=>?_) (λhh=>absurd (show(i:Int)<(f.length:Int) by omega) hh)
    refine⟨λy=>y=decide (s / 2^i % 2=0/\iG f r s i=true),⟨⟨om,om⟩,?_⟩,?_⟩
    ·rw[GW h256]
     refine bv (λhb=>⟨⟨om,om⟩,da (hf i om).1 ?_⟩) (λhb=>?_)
     ·have hb1:s / 2^i % 2=0:=Int.ofNat.inj hb
      refine decide_eq_decide.2 ?_
      rw[H' hb1]
      exact⟨λhh=>⟨hb1,hh⟩,λhh=>hh.2⟩
     ·exact(decide_eq_false (λhh=>hb (by rw[hh.1];rfl))).symm
    ·rintro _ rfl
     refine condT (λhc4=>?_) (λhc4=>?_)
     ·rw[if_pos hc4] at hn3
      have hrx:cM f r s i=at' f (i:Int):=if_neg om
      have hok:=nF (qS (hall i hin).1.1)
      refine⟨⟨⟨om,om⟩,(rS (n:=i) om).2⟩,⟨om,om⟩,oU (.self (hf i om).1 (hf i om).2) (.zero (k:=1) om (by decide)) (by simp only[cap];omega) λ_=>⟨?_,zRg,?_⟩⟩
      ·rw[length_append,length_append,length_append];simp;omega
      ·rw[Ci,Rat.add_zero,<-hok,toNat_natCast,(Ae s h256 i om).2.1 hc4.1]
       rw[itm,hrx,qn hc4.1] at hn3
       exact hn3
     ·rw[if_neg hc4,List.append_nil] at hn3
      exact⟨zRg,hn3⟩
   ·intro next3
    refine condT (λhh=>absurd hh om) (λ_=>⟨zRg,?_⟩)
    rw[range_succ,map_append,mvs,<-append_assoc] at hn
    exact hn
 ·intro next
  exact condT (λhh=>absurd hh om) (λ_=>h)
def H6 (a b:GMove):Prop:=a.D<b.D\/(a.D=b.D/\a.To<b.To)
theorem kB {f r:List GRat} {n:Nat}:∀S,∀m∈mvs f r n S,∃s i,s<S/\i<n/\m=itm f r s i/\iG f r s i=true
 | 0,m,hm=>by simp[mvs] at hm
 | S+1,m,hm=>by
  rw[mvs,mem_append,mem_append] at hm
  rcases hm with hm | hm | hm
  ·obtain⟨s,i,h1,h2⟩:=kB S m hm
   exact⟨s,i,om,h2⟩
  ·obtain⟨i,_,h2,_,h4,h5⟩:=zW n (le_refl n) m hm
   exact⟨S,i,om,h2,h4,h5⟩
  ·obtain⟨i,h2,_,h4,h5⟩:=yJ n m hm
   exact⟨S,i,om,h2,h4,h5⟩
theorem qx {f r:List GRat} {s n:Nat} {m:GMove} (hm:m∈dnP f r s n n++up f r s n):m.D=(s:Int):=by
 rw[mem_append] at hm
 rcases hm with hm | hm
 ·obtain⟨i,_,_,_,rfl,_⟩:=zW n (le_refl n) m hm;rfl
 ·obtain⟨i,_,_,rfl,_⟩:=yJ n m hm;rfl
theorem B3 {f r:List GRat} {n:Nat}:∀S,(mvs f r n S).Pairwise H6
 | 0=>List.Pairwise.nil
 | S+1=>by
  rw[mvs,List.pairwise_append]
  refine⟨B3 S,?_,λa ha b hb=>?_⟩
  ·refine(Jq (f:=f) (r:=r) (s:=S) (n:=n)).imp_of_mem λ{a b} ha hb h=>Or.inr ⟨?_,h⟩
   rw[qx ha,qx hb]
  ·obtain⟨s,i,h1,_,rfl,_⟩:=kB S a ha
   refine Or.inl ?_
   rw[qx hb]
   show(s:Int)<(S:Int)
   omega
theorem bX {α:Type} [Inhabited α] {l:List α} {i:Nat} (h:i<l.length):at' l (i:Int)=l[i]:=by
 simp[at',List.getD_eq_getElem?_getD,List.getElem?_eq_getElem h]
theorem kE {α:Type} [Inhabited α] {l:List α} {i:Nat} (h:i<l.length):at' l (i:Int)∈l:=by
 rw[bX h];exact List.getElem_mem h
theorem mG {c:GChain} {x:Int} {Q:Bool->Prop} (h0:0<=x) (h1:x<c.H) (h:Q true):gW c x Q:=
 condT (λ_=>by rw[decide_eq_true h1];exact h) (λhh=>absurd h0 hh)
theorem vT {a b:GMove} {Q:Bool->Prop} (hl:H6 a b) (h:Q true):lK a b Q:=by
 refine condT (λ_=>h) (λhc=>bv (λhe=>?_) (λhe=>?_))
 ·rcases hl with h1 | h1
  ·exact absurd h1 hc
  ·rw[decide_eq_true h1.2];exact h
 ·rcases hl with h1 | h1
  ·exact absurd h1 hc
  ·exact absurd h1.1 he
theorem pR {c:GChain} {Q:Option Int->Prop} (s1:1<=c.H) (s2:c.H<=256) (hd:(c.B.length:Int)=c.H) (hst:c.O=0) (hlen:c.V.length<=1000000)
  (hm:∀i:Nat,i<c.V.length->(0<=(at' c.V (i:Int)).D/\(at' c.V (i:Int)).D<c.H)/\(0<=(at' c.V (i:Int)).To/\(at' c.V (i:Int)).To<c.H)/\(at' c.V (i:Int)).D≠(at' c.V (i:Int)).To/\
   Fr (at' c.V (i:Int)).X/\okR (at' c.V (i:Int)).X=true/\0<gi (aF (at' c.V (i:Int)).X))
  (hs:c.V.Pairwise H6) (h:Q none):eb c Q:=by
 refine⟨λy=>y=false,?_,?_⟩
 ·exact condT (λhh=>om) (λ_=>decide_eq_false om)
 rintro _ rfl
 refine aJ (λhh=>by cases hh) (λ_=>ga (λhh=>absurd hd hh) (λ_=>mG om om (aJ (λhh=>by cases hh) (λ_=>?_))))
 refine pF (λ_=>False) om (λi next hi _ hnx=>⟨⟨om,om⟩,?_⟩) (λ_=>h)
 obtain⟨⟨f0,f1⟩,⟨t0,t1⟩,hne,hfr,hok,hsg⟩:=hm i hi
 refine⟨λy=>y=false,mG f0 f1 (aJ (λhh=>by cases hh) (λ_=>mG t0 t1 rfl)),?_⟩
 rintro _ rfl
 refine aJ (λhh=>by cases hh) (λ_=>bv (λhh=>absurd hh hne) (λ_=>?_))
 refine⟨λy=>y=false,fo hfr ?_,?_⟩
 ·rw[hok]
  exact aJ (λhh=>by cases hh) (λ_=>da hfr (decide_eq_false om))
 rintro _ rfl
 refine aJ (λhh=>by cases hh) (λ_=>⟨λy=>y=false,?_,?_⟩)
 ·refine condT (λhp=>⟨zRg,⟨om,om⟩,true,?_,rfl⟩) (λ_=>rfl)
  obtain⟨j,rfl⟩:∃j,i=j+1:=⟨i-1,om⟩
  have e:(((j+1:Nat):Int)-1)=(j:Int):=om
  rw[e,bX (show j<c.V.length by omega),bX hi]
  exact vT (List.pairwise_iff_getElem.1 hs j (j+1) om hi om) rfl
 ·rintro _ rfl
  exact aJ (λhh=>by cases hh) (λ_=>hnx (λhh=>hh))
theorem yn {f r:List GRat} {k:Nat} (hf:Frs k f) (hr:Frs k r) (hl:f.length=r.length) (hall:∀i:Nat,i<f.length->(dq (at' f (i:Int))=true/\dq (at' r (i:Int))=true)) {S:Nat} (hS:S<=2^f.length) :
  ∀i:Nat,i<(mvs f r f.length S).length->(0<=(at' (mvs f r f.length S) (i:Int)).D/\(at' (mvs f r f.length S) (i:Int)).D<((2^f.length:Nat):Int))/\(0<=(at' (mvs f r f.length S) (i:Int)).To/\(at' (mvs f r f.length S) (i:Int)).To<((2^f.length:Nat):Int))/\(at' (mvs f r f.length S) (i:Int)).D≠(at' (mvs f r f.length S) (i:Int)).To/\
   Fr (at' (mvs f r f.length S) (i:Int)).X/\okR (at' (mvs f r f.length S) (i:Int)).X=true/\0<gi (aF (at' (mvs f r f.length S) (i:Int)).X):=by
 intro i hi
 obtain⟨s,j,h1,h2,h3,h4⟩:=kB S _ (kE hi)
 rw[h3]
 have hs:s<2^f.length:=lt_of_lt_of_le h1 hS
 have ht:=vJ hs h2
 have hne:flp s j≠s:=by
  have hj:0<2^j:=pow_pos om
  rcases pS s j with hb | hb
  ·have:=mV hb;omega
  ·have:=qn hb;omega
 refine⟨⟨Int.natCast_nonneg s,Int.ofNat_lt.2 hs⟩,⟨Int.natCast_nonneg _,Int.ofNat_lt.2 ht⟩,λe=>hne (Int.ofNat.inj e).symm,?_,?_,of_decide_eq_true h4⟩
 ·show Fr (cM f r s j)
  unfold cM
  split
  ·exact(hr j om).1
  ·exact(hf j h2).1
 ·show okR (cM f r s j)=true
  unfold cM
  split
  ·exact qS (hall j h2).2
  ·exact qS (hall j h2).1
def dE (g:GMove->Rat):List GMove->Rat
 | []=>0
 | a :: l=>g a+dE g l
theorem mT {g:GMove->Rat}:∀ {l m:List GMove},dE g (l++m)=dE g l+dE g m
 | [],m=>by rw[List.nil_append,dE,Rat.zero_add]
 | a :: l,m=>by rw[List.cons_append,dE,dE,mT,Rat.add_assoc]
theorem pi {g:GMove->Rat} {l:List GMove} {j:Nat} (h:j<l.length):dE g (l.take (j+1))=dE g (l.take j)+g (at' l (j:Int)):=by
 rw[List.take_add_one,mT,List.getElem?_eq_getElem h,bX h]
 show _+dE g [l[j]]=_
 rw[dE,dE,Rat.add_zero]
theorem uf {h:Nat->Rat}:∀n,aB h (n+1)=h 0+aB (λi=>h (i+1)) n
 | 0=>by rw[aB,aB,aB,Rat.zero_add,Rat.add_zero]
 | n+1=>by rw[aB,uf n,aB,Rat.add_assoc]
theorem wK {h:Nat->Rat}:∀n,aB (λj=>h (n-1-j)) n=aB h n
 | 0=>rfl
 | n+1=>by
  rw[uf n]
  have e:aB (λi=>h (n+1-1-(i+1))) n=aB (λj=>h (n-1-j)) n:=aX n λi hi=>by
   rw[show n+1-1-(i+1)=n-1-i by omega]
  rw[e,wK n,aB,Rat.add_comm]
  rfl
theorem jb {g h:Nat->Rat}:∀n,aB g n+aB h n=aB (λi=>g i+h i) n
 | 0=>Rat.add_zero 0
 | n+1=>by
  rw[aB,aB,aB,<-jb n]
  grind
theorem pY {g h:Nat->Rat}:∀n,aB g n-aB h n=aB (λi=>g i-h i) n
 | 0=>by rw[aB,aB,aB];exact gf.2 rfl
 | n+1=>by
  rw[aB,aB,aB,<-pY n]
  grind
theorem p' {F:Nat->Nat->Rat} (N:Nat):∀n,aB (λs=>aB (λi=>F s i) n) N=aB (λi=>aB (λs=>F s i) N) n
 | 0=>e_ N (λ_ _=>rfl)
 | n+1=>by
  rw[aB,<-p' N n,jb]
  rfl
theorem eW {g:Nat->Rat} {a:Nat}:∀N,a<N->aB (λs=>if s=a then g s else 0) N=g a
 | 0,h=>absurd h om
 | N+1,h=>by
  rw[aB]
  rcases lt_or_ge a N with h1 | h1
  ·rw[eW N h1,if_neg om,Rat.add_zero]
  ·obtain rfl:a=N:=om
   rw[e_ a (λi hi=>if_neg om),if_pos rfl,Rat.zero_add]
set_option maxRecDepth 10000 in
theorem nJ:∀s:Nat,s<256->∀i:Nat,i<8->flp (flp s i) i=s/\(s / 2^i % 2=0->flp s i / 2^i % 2=1)/\(s / 2^i % 2=1->flp s i / 2^i % 2=0):=by decide +kernel
set_option maxRecDepth 10000 in
theorem qo:∀s:Nat,s<256->∀i:Nat,i<8->∀j:Nat,j<8->j≠i->flp s i / 2^j % 2=s / 2^j % 2:=by decide +kernel
theorem zn {u:Nat->Rat} {x y:Nat}:∀n,(∀j,j<n->x / 2^j % 2=y / 2^j % 2)->pr u n x=pr u n y
 | 0,_=>rfl
 | n+1,h=>by rw[pr,pr,zn n (λj hj=>h j om),h n om]
theorem FX {u:Nat->Rat} {s i:Nat} (hs:s<256) (hi8:i<8) (hb:s / 2^i % 2=0):∀n,i<n->n<=8->pr u n (flp s i)*(1-u i)=pr u n s*u i
 | 0,h,_=>absurd h om
 | n+1,h,h8=>by
  rw[pr,pr]
  rcases lt_or_ge i n with h1 | h1
  ·have ih:=FX (u:=u) hs hi8 hb n h1 om
   rw[qo s hs i hi8 n om om]
   generalize (if s / 2^n % 2=0 then 1-u n else u n)=z
   grind
  ·obtain rfl:i=n:=om
   rw[zn i (λj hj=>qo s hs i hi8 j om om),if_pos hb,if_neg (by rw[(nJ s hs i hi8).2.1 hb];omega)]
   grind
section
variable {f r:List GRat} {n:Nat}
def wS (f r:List GRat) (n s i:Nat):Rat:=pr (ba f r) n s*aF (cM f r s i)
def wt (f r:List GRat) (n:Nat) (m:GMove):Rat:=pr (ba f r) n m.D.toNat*aF m.X
def ct (f r:List GRat) (n t:Nat) (m:GMove):Rat:=(if m.To=(t:Int) then wt f r n m else 0)-(if m.D=(t:Int) then wt f r n m else 0)
theorem S9 {s i t:Nat}:ct f r n t (itm f r s i)=(if t=flp s i then wS f r n s i else 0)-(if t=s then wS f r n s i else 0):=by
 have e:wt f r n (itm f r s i)=wS f r n s i:=by
  show pr (ba f r) n (toNat (s:Int))*_=_
  rw[toNat_natCast];rfl
 have c1:((itm f r s i).To=(t:Int))↔t=flp s i:=by
  show((flp s i:Nat):Int)=(t:Int)↔_
  omega
 have c2:((itm f r s i).D=(t:Int))↔t=s:=by
  show((s:Nat):Int)=(t:Int)↔_
  omega
 unfold ct
 rw[e]
 simp only[c1,c2]
theorem B8 {g:GMove->Rat} {c:Prop} [Decidable c] {m:GMove}:dE g (if c then [m] else [])=if c then g m else 0:=by
 split
 ·rw[dE,dE,Rat.add_zero]
 ·rfl
theorem B9 {g:GMove->Rat} {s:Nat}:∀k,dE g (dnP f r s n k)=aB (λj=>if s / 2^(n-1-j) % 2=1/\iG f r s (n-1-j)=true then g (itm f r s (n-1-j)) else 0) k
 | 0=>rfl
 | k+1=>by rw[dnP,mT,B9 k,B8,aB]
theorem B7 {g:GMove->Rat} {s:Nat}:∀k,dE g (up f r s k)=aB (λj=>if s / 2^j % 2=0/\iG f r s j=true then g (itm f r s j) else 0) k
 | 0=>rfl
 | k+1=>by rw[up,mT,B7 k,B8,aB]
def dS (f r:List GRat) (n t s i:Nat):Rat:=(if t=flp s i then wS f r n s i else 0)-(if t=s then wS f r n s i else 0)
theorem Dm {s t:Nat} (hz:∀i,i<n->iG f r s i=false->aF (cM f r s i)=0):dE (ct f r n t) (dnP f r s n n++up f r s n)=aB (λi=>dS f r n t s i) n:=by
 rw[mT,B9,B7,wK (h:=λj=>if s / 2^j % 2=1/\iG f r s j=true then ct f r n t (itm f r s j) else 0),jb]
 refine aX n λi hi=>?_
 rw[S9]
 cases hg:iG f r s i with
 | true=>
  rcases pS s i with hb | hb
  ·rw[if_pos ⟨hb,rfl⟩,if_neg (c:=s / 2^i % 2=0/\true=true) (λhh=>by have:=hh.1;omega),Rat.add_zero];rfl
  ·rw[if_neg (c:=s / 2^i % 2=1/\true=true) (λhh=>by have:=hh.1;omega),if_pos ⟨hb,rfl⟩,Rat.zero_add];rfl
 | false=>
  have hw:wS f r n s i=0:=by rw[wS,hz i hi hg,Rat.mul_zero]
  rw[if_neg (λhh=>by cases hh.2),if_neg (λhh=>by cases hh.2),dS,hw]
  split<;>split<;>decide +kernel
theorem B0 {t:Nat}:∀S,(∀s,s<S->∀i,i<n->iG f r s i=false->aF (cM f r s i)=0)->dE (ct f r n t) (mvs f r n S)=aB (λs=>aB (λi=>dS f r n t s i) n) S
 | 0,_=>rfl
 | S+1,h=>by rw[mvs,mT,B0 S (λs hs=>h s om),Dm (h S om),aB]
theorem Jk {t i:Nat} (h8:n<=8) (ht:t<2^n) (hi:i<n) (hne:aF (at' f (i:Int))+aF (at' r (i:Int))≠0):wS f r n (flp t i) i=wS f r n t i:=by
 have h256:t<256:=lt_of_lt_of_le ht (gn h8)
 have key:∀s,s<256->s / 2^i % 2=0->wS f r n (flp s i) i=wS f r n s i:=by
  intro s hs hb
  have h1:=FX (u:=ba f r) hs om hb n hi h8
  have e1:cM f r s i=at' f (i:Int):=if_neg om
  have e2:cM f r (flp s i) i=at' r (i:Int):=if_pos ((nJ s hs i om).2.1 hb)
  unfold wS
  rw[e1,e2]
  have h2:ba f r i*(aF (at' f (i:Int))+aF (at' r (i:Int)))=aF (at' f (i:Int)):=Rat.div_mul_cancel hne
  generalize ba f r i=u at *
  generalize aF (at' f (i:Int))=a at *
  generalize aF (at' r (i:Int))=b at *
  generalize pr (ba f r) n (flp s i)=p at *
  generalize pr (ba f r) n s=q at *
  have h3:b=(1-u)*(a+b):=by grind
  have h4:p*b=(p*(1-u))*(a+b):=by rw[Rat.mul_assoc,<-h3]
  rw[h4,h1,Rat.mul_assoc,h2]
 rcases pS t i with hb | hb
 ·have h3:=(nJ t h256 i om).2.2 hb
  have h4:=key (flp t i) (lt_of_lt_of_le (vJ ht hi) (gn h8)) h3
  rw[(nJ t h256 i om).1] at h4
  exact h4.symm
 ·exact key t h256 hb
theorem zy {t:Nat} (h8:n<=8) (ht:t<2^n) (hne:∀i:Nat,i<n->aF (at' f (i:Int))+aF (at' r (i:Int))≠0) (hz:∀s,s<2^n->∀i,i<n->iG f r s i=false->aF (cM f r s i)=0):dE (ct f r n t) (mvs f r n (2^n))=0:=by
 rw[B0 _ hz,p']
 refine e_ n λi hi=>?_
 have h256:t<256:=lt_of_lt_of_le ht (gn h8)
 have e:aB (λs=>dS f r n t s i) (2^n)=aB (λs=>(if s=flp t i then wS f r n s i else 0)-(if s=t then wS f r n s i else 0)) (2^n):=aX _ λs hs=>by
  have hs256:s<256:=lt_of_lt_of_le hs (gn h8)
  have c1:(t=flp s i)↔(s=flp t i):=⟨λhh=>by rw[hh,(nJ s hs256 i om).1],λhh=>by rw[hh,(nJ t h256 i om).1]⟩
  have c2:(t=s)↔(s=t):=⟨Eq.symm,Eq.symm⟩
  unfold dS
  simp only[c1,c2]
 rw[e,<-pY,eW _ (vJ ht hi),eW _ ht]
 exact gf.2 (Jk h8 ht hi (hne i hi))
end
def Vr (B m:Nat) (l:List GRat) (f:Nat->Rat):Prop:=l.length=m/\∀j:Nat,j<m->Rp B (at' l (j:Int)) (f j)
def MR (B n m:Nat) (a:List (List GRat)) (M:Nat->Nat->Rat):Prop:=a.length=n/\∀i:Nat,i<n->Vr B m (at' a (i:Int)) (M i)
theorem Vr.mono {B C m:Nat} {l:List GRat} {f:Nat->Rat} (h:Vr B m l f) (hc:B<=C):Vr C m l f:=⟨h.1,λj hj=>(h.2 j hj).mono hc⟩
theorem Vr.congr {B m:Nat} {l:List GRat} {f g:Nat->Rat} (h:Vr B m l f) (e:∀j,j<m->f j=g j):Vr B m l g:=⟨h.1,λj hj=>e j hj▸h.2 j hj⟩
theorem SZ {α:Type} [Inhabited α] {l:List α} {m:Nat} {g:Nat->α} (hl:l.length=m) (h:∀j:Nat,j<m->at' l (j:Int)=g j):l=(range m).map g:=by
 refine List.ext_getElem (by simp[hl]) λi h1 h2=>?_
 have:=h i om
 rw[bX h1] at this
 rw[this]
 simp
theorem vz {B n m:Nat} {a:List (List GRat)} {M:Nat->Nat->Rat} {Q:Option Int->Prop} (h:MR B n m a M) (hn:1<=n/\n<=256) (hm:1<=m/\m<=256) (hQ:Q none):iF a Q:=by
 unfold iF
 have h0:=(h.2 0 om).1
 have hl:=h.1
 have e0:at' a 0=at' a ((0:Nat):Int):=rfl
 refine jh (bv (λe=>absurd e om) λ_=>⟨om,?_⟩)
 refine bv (λe=>absurd e (by rw[e0,h0];omega)) λ_=>?_
 refine jh (condT (λe=>absurd e om) λ_=>⟨om,?_⟩)
 refine condT (λe=>absurd e (by rw[e0,h0];omega)) λ_=>?_
 refine ig (n:=n) (λi=>(i:Int)) (λy=>y) 0 (λi=>om) rfl ?_ ?_
 ·intro i next hi hnx
  refine condT (λ_=>⟨om,om,?_⟩) (λe=>absurd e om)
  refine ga (λe=>absurd e (by rw[(h.2 i hi).1,e0,h0];simp)) λ_=>⟨zRg,?_⟩
  simpa using hnx
 ·intro next
  exact condT (λe=>absurd e om) λ_=>hQ
def sY (row:List GRat) (u v:Nat->Rat) (q:Rat) (m:Nat):List GRat:=(range m).map λj=>if v j=0 then at' row (j:Int) else ay (u j-q*v j)
theorem rl {row:List GRat} {u v:Nat->Rat} {q:Rat} {m j:Nat} (h:j<m):at' (sY row u v q m) (j:Int)=if v j=0 then at' row (j:Int) else ay (u j-q*v j):=lL h
theorem Gy {row:List GRat} {u v:Nat->Rat} {q:Rat} {B C D m:Nat} {f:GRat} (hf:Rp D f q) (hr:Vr B m row u) {l:List GRat} (hv:Vr C m l v) (hb:B+(D+C)+1<=cap):Vr (B+(D+C)+1) m (sY row u v q m) (λj=>u j-q*v j):=by
 refine⟨by simp[sY],λj hj=>?_⟩
 rw[rl hj]
 by_cases h:v j=0
 ·rw[if_pos h]
  show Rp _ _ (u j-q*v j)
  rw[show u j-q*v j=u j by rw[h];grind]
  exact(hr.2 j hj).mono om
 ·rw[if_neg h]
  exact .of (sD (hr.2 j hj).2.2 (sF hf.2.2 (hv.2 j hj).2.2)) hb
theorem Sc {f:GRat} {row l:List GRat} {u v:Nat->Rat} {q:Rat} {B C D m:Nat} {Q:List GRat->Prop} (hf:Rp D f q) (hr:Vr B m row u) (hv:Vr C m l v) (hb:B+(D+C)+1<=cap) (hm:m<=1000) (hQ:Q (sY row u v q m)):fz f row l Q:=by
 unfold fz
 refine bQ (n:=m) (λi (y:Int×List GRat)=>y.1=(i:Int)/\y.2.length=m/\∀j:Nat,j<m->at' y.2 (j:Int)=if j<i then at' (sY row u v q m) (j:Int) else at' row (j:Int)) (λy=>y.1) 0
  (λi y h=>by rw[h.1];omega) ⟨rfl,hr.1,λj hj=>by rw[if_neg om]⟩ ?_ ?_
 ·rintro i ⟨x,row1⟩ next hi ⟨hx,hl,ha⟩ hnx
  dsimp only at hx hl ha ⊢
  subst hx
  have hl1:=hr.1
  have hl2:=hv.1
  refine condT (λ_=>⟨om,?_⟩) (λe=>absurd e om)
  refine um (hv.2 i hi) ?_
  refine ga (λe=>⟨om,om,?_⟩) (λe=>⟨zRg,hnx _ ⟨by simp,hl,λj hj=>?_⟩⟩)
  ·have hne:v i≠0:=λh0=>e (jq.2 h0)
   refine ya hf (hv.2 i hi) om λhp=>?_
   have hrow:at' row1 (i:Int)=at' row (i:Int):=by rw[ha i hi,if_neg om]
   refine xJ (hrow▸hr.2 i hi) hp om λhp2=>⟨om,zRg,hnx _ ⟨by simp,by rw[bJ];exact hl,λj hj=>?_⟩⟩
   dsimp only
   rw[cm om]
   by_cases hji:j=i
   ·subst hji
    rw[if_pos rfl,if_pos om,rl hj,if_neg hne]
   ·rw[if_neg hji,ha j hj]
    by_cases h2:j<i
    ·rw[if_pos h2,if_pos om]
    ·rw[if_neg h2,if_neg om]
  ·dsimp only
   rw[ha j hj]
   by_cases hji:j=i
   ·subst hji
    rw[if_neg om,if_pos om,rl hj,if_pos (jq.1 e)]
   ·by_cases h2:j<i
    ·rw[if_pos h2,if_pos om]
    ·rw[if_neg h2,if_neg om]
 ·rintro⟨x,row1⟩ next ⟨hx,hl,ha⟩
  dsimp only at hx hl ha ⊢
  subst hx
  have hl1:=hr.1
  refine condT (λe=>absurd e om) λ_=>?_
  have:row1=sY row u v q m:=by
   refine(SZ hl λj hj=>?_).trans rfl
   rw[ha j hj,if_pos hj,rl hj]
  rw[this];exact hQ
theorem tG {B n m:Nat} {a:List (List GRat)} {M:Nat->Nat->Rat} {Q:List (List GRat)->Prop} (h:MR B n m a M) (hn:n<=1000) (hm:m<=1000) (hb:B+2<=cap) (hQ:∀out,MR (B+2) n m out M->Q out):eJ a Q:=by
 unfold eJ
 have hl:=h.1
 refine⟨i_ om om,?_⟩
 refine bQ (n:=n) (λi (y:Int×List (List GRat))=>y.1=(i:Int)/\y.2.length=n/\∀r:Nat,r<n->if r<i then Vr (B+2) m (at' y.2 (r:Int)) (M r) else at' y.2 (r:Int)=[]) (λy=>y.1) 0
  (λi y h=>by rw[h.1];omega) ⟨rfl,by simp[aQ,hl],λr hr=>by
   rw[if_neg om]
   simp[aQ,at',hl,List.getD_eq_getElem?_getD,hr]⟩ ?_ ?_
 ·rintro i ⟨x,out⟩ next hi ⟨hx,ho,ha⟩ hnx
  dsimp only at hx ho ha ⊢
  subst hx
  have hrow:=h.2 i hi
  refine condT (λ_=>⟨om,?_⟩) (λe=>absurd e om)
  refine bQ (n:=m) (λj (y:Int×List (List GRat))=>y.1=(j:Int)/\y.2.length=n/\(∀r:Nat,r<n->r≠i->at' y.2 (r:Int)=at' out (r:Int))/\Vr (B+2) j (at' y.2 (i:Int)) (M i)) (λy=>y.1) 0
   (λi y h=>by rw[h.1];omega) ⟨rfl,ho,λr _ _=>rfl,by
    have:=ha i hi
    rw[if_neg om] at this
    dsimp only
    rw[this]
    exact⟨rfl,λj hj=>absurd hj om⟩⟩ ?_ ?_
  ·rintro j ⟨y,o1⟩ nx hj ⟨hy,h1,h2,h3⟩ hnx2
   dsimp only at hy h1 h2 h3 ⊢
   subst hy
   have hrl:=hrow.1
   refine condT (λ_=>⟨om,om,?_⟩) (λe=>absurd e om)
   refine oU (hrow.2 j hj) (.zero (k:=1) om (by decide)) om λhp=>?_
   rw[Rat.add_zero] at hp ⊢
   have h3l:=h3.1
   refine⟨by simp[h3l];omega,om,zRg,hnx2 _ ⟨by simp,by rw[bJ];exact h1,λr hr hne=>?_,?_⟩⟩
   ·dsimp only;rw[cm om,if_neg hne];exact h2 r hr hne
   ·dsimp only
    rw[cm om,if_pos rfl]
    refine⟨by simp[h3l],λt ht=>?_⟩
    by_cases htj:t=j
    ·subst htj
     have e:at' (at' o1 (i:Int)++[ay (M i t)]) (t:Int)=ay (M i t):=by
      rw[<-h3l];exact gA
     rw[e];exact hp.mono om
    ·rw[fD om om]
     exact h3.2 t om
  ·rintro⟨y,o1⟩ nx ⟨hy,h1,h2,h3⟩
   dsimp only at hy h1 h2 h3 ⊢
   subst hy
   have hrl:=hrow.1
   refine condT (λe=>absurd e om) λ_=>⟨zRg,hnx _ ⟨by simp,h1,λr hr=>?_⟩⟩
   dsimp only
   by_cases hri:r=i
   ·subst hri;rw[if_pos om];exact h3
   ·rw[h2 r hr hri]
    have:=ha r hr
    by_cases h4:r<i
    ·rw[if_pos om];rw[if_pos h4] at this;exact this
    ·rw[if_neg om];rw[if_neg h4] at this;exact this
 ·rintro⟨x,out⟩ next ⟨hx,ho,ha⟩
  dsimp only at hx ho ha ⊢
  subst hx
  refine condT (λe=>absurd e om) λ_=>hQ _ ⟨ho,λr hr=>?_⟩
  have:=ha r hr
  rw[if_pos hr] at this
  exact this
def dot (M:Nat->Nat->Rat) (m i:Nat) (y:Nat->Rat):Rat:=aB (λj=>M i j*y j) m
def tc (n m:Nat) (M M':Nat->Nat->Rat):Prop:=∀y:Nat->Rat,(∀i,i<n->dot M m i y=0)↔∀i,i<n->dot M' m i y=0
theorem tc.trans {n m:Nat} {M M' M'':Nat->Nat->Rat} (h:tc n m M M') (h':tc n m M' M''):tc n m M M'':=λy=>(h y).trans (h' y)
def UC (n k:Nat) (M:Nat->Nat->Rat):Prop:=∀i j,i<n->j<k->M i j=if i=j then 1 else 0
def Jt (n:Nat) (M:Nat->Nat->Rat):Prop:=∀y:Nat->Rat,(∀i,i<n->dot M (n+1) i y=0)->y n=0->∀j,j<n->y j=0
theorem rL {f g:Nat->Rat} {c:Rat} (n:Nat):aB (λi=>f i-c*g i) n=aB f n-c*aB g n:=by
 induction n with
 | zero=>simp[aB];grind
 | succ n ih=>rw[aB,aB,aB,ih];grind
theorem rM {f:Nat->Rat} {c:Rat} (n:Nat):aB (λi=>f i / c) n=aB f n / c:=by
 have:aB (λi=>f i / c) n=aB (λi=>f i*c⁻¹) n:=aX _ λi _=>Rat.div_def ..
 rw[this,kG,Rat.div_def]
theorem Xt {n k:Nat} {M:Nat->Nat->Rat} (hk:k<n) (hu:UC n k M) (hU:Jt n M):∃r,k<=r/\r<n/\M r k≠0:=by
 refine Classical.byContradiction λhc=>?_
 have h0:∀r,k<=r->r<n->M r k=0:=λr h1 h2=>Classical.byContradiction λh=>hc ⟨r,h1,h2,h⟩
 have:=hU (λj=>if j<k then -M j k else if j=k then 1 else 0) (λi hi=>?_) (by rw[if_neg om,if_neg om]) k hk
 ·rw[if_neg om,if_pos rfl] at this
  exact absurd this (by decide)
 ·have e:dot M (n+1) i (λj=>if j<k then -M j k else if j=k then 1 else 0)=aB (λj=>if j=i then (if i<k then -M i k else 0) else 0) (n+1)+aB (λj=>if j=k then M i k else 0) (n+1):=by
   rw[jb]
   refine aX _ λj hj=>?_
   dsimp only
   by_cases h1:j<k
   ·rw[if_pos h1,hu i j hi h1,if_neg (show ¬j=k by omega)]
    by_cases h2:i=j
    ·subst h2;rw[if_pos rfl,if_pos rfl,if_pos h1];grind
    ·rw[if_neg h2,if_neg (λh=>h2 h.symm)];grind
   ·rw[if_neg h1]
    by_cases h2:j=k
    ·subst h2
     rw[if_pos rfl,if_pos rfl]
     by_cases h3:j=i
     ·subst h3;rw[if_pos rfl,if_neg om];grind
     ·rw[if_neg h3];grind
    ·rw[if_neg h2,if_neg h2]
     by_cases h3:j=i
     ·subst h3;rw[if_pos rfl,if_neg om];grind
     ·rw[if_neg h3];grind
  rw[e,eW (n+1) om,eW (g:=λ_=>M i k) (n+1) om]
  by_cases h1:i<k
  ·rw[if_pos h1];grind
  ·rw[if_neg h1,h0 i om hi];grind
def qJ (M:Nat->Nat->Rat) (k r:Nat):Nat->Nat->Rat:=λi j=>
 if i=k then M r j / M r k else if i=r then M k j-M k k*(M r j / M r k) else M i j-M i k*(M r j / M r k)
theorem Hu {n k r:Nat} {M:Nat->Nat->Rat} (hk:k<n) (hr:k<=r/\r<n) (hne:M r k≠0) (hu:UC n k M):UC n (k+1) (qJ M k r):=by
 intro i j hi hj
 unfold qJ
 by_cases h1:j=k
 ·subst h1
  by_cases h2:i=j
  ·rw[if_pos h2,if_pos h2];grind
  ·rw[if_neg h2,if_neg h2]
   split<;>grind
 ·have hj':j<k:=om
  have e1:M r j=0:=by rw[hu r j hr.2 hj',if_neg om]
  by_cases h2:i=k
  ·rw[if_pos h2,e1,if_neg om];grind
  ·rw[if_neg h2,e1]
   by_cases h3:i=r
   ·rw[if_pos h3,hu k j hk hj',if_neg om,if_neg om];grind
   ·rw[if_neg h3,hu i j hi hj'];grind
theorem FE {n m k r:Nat} {M:Nat->Nat->Rat} (hk:k<n) (hr:k<=r/\r<n) (hne:M r k≠0):tc n m M (qJ M k r):=by
 intro y
 have ek:dot (qJ M k r) m k y=dot M m r y / M r k:=by
  unfold dot
  rw[<-rM]
  exact aX _ λj _=>by dsimp only[qJ];rw[if_pos rfl];grind
 have eo:∀i,i≠k->i≠r->dot (qJ M k r) m i y=dot M m i y-M i k*(dot M m r y / M r k):=λi h1 h2=>by
  unfold dot
  rw[<-rM,<-rL]
  exact aX _ λj _=>by dsimp only[qJ];rw[if_neg h1,if_neg h2];grind
 have er:r≠k->dot (qJ M k r) m r y=dot M m k y-M k k*(dot M m r y / M r k):=λh1=>by
  unfold dot
  rw[<-rM,<-rL]
  exact aX _ λj _=>by dsimp only[qJ];rw[if_neg h1,if_pos rfl];grind
 constructor
 ·intro h i hi
  have hr0:=h r hr.2
  by_cases h1:i=k
  ·subst h1;rw[ek,hr0];grind
  ·by_cases h2:i=r
   ·subst h2;rw[er h1,hr0,h k hk];grind
   ·rw[eo i h1 h2,hr0,h i hi];grind
 ·intro h i hi
  have hr0:dot M m r y=0:=by
   have:=h k hk
   rw[ek] at this
   have e:dot M m r y=dot M m r y / M r k*M r k:=by rw[Rat.div_mul_cancel hne]
   rw[e,this,Rat.zero_mul]
  by_cases h2:i=r
  ·subst h2;exact hr0
  ·by_cases h1:i=k
   ·subst h1
    have:=h r hr.2
    rw[er om,hr0] at this
    grind
   ·have:=h i hi
    rw[eo i h1 h2,hr0] at this
    grind
def bd (B:Nat):Nat->Nat
 | 0=>B
 | k+1=>4*bd B k+1
theorem xq {B k l:Nat} (h:k<=l):bd B k<=bd B l:=by
 induction l with
 | zero=>
  have:k=0:=om
  subst this;exact le_refl _
 | succ l ih=>
  rcases lt_or_ge l k with h1 | h1
  ·have:k=l+1:=om
   subst this;exact le_refl _
  ·have:=ih h1
   rw[bd];omega
theorem zl {n k r B:Nat} {a:List (List GRat)} {M:Nat->Nat->Rat} {m:Nat} {Qs:List (List GRat)->Prop} (hM:MR B n m a M) (hk:k<n) (hkm:k<m) (hr:k<=r/\r<n) (hne:M r k≠0) (hn:n<=256) (hm:m<=257) (hb:4*B+1<=cap) (hB:1<=B)
  (hQ:∀a',MR (4*B+1) n m a' (qJ M k r)->Qs a') :
  aH (σ:=Int×(List (List GRat))) (0,(swp a (k:Int) (r:Int))) λ⟨x,a4⟩ next3=>
   ac (decide (x<((at' (swp a (k:Int) (r:Int)) (k:Int)).length:Int)))
    (((0:Int)<=(k:Int)/\(k:Int)<(a4.length:Int))/\
    ((0:Int)<=(k:Int)/\(k:Int)<(a4.length:Int))/\
    ((0:Int)<=x/\x<((at' a4 (k:Int)).length:Int))/\
    xk (ez (at' (at' a4 (k:Int)) x) (at' (at' (swp a (k:Int) (r:Int)) (k:Int)) (k:Int))) λr _=>
    ((0:Int)<=x/\x<((at' a4 (k:Int)).length:Int))/\
    rng (x+1)/\
    next3 ((x+1),(aN a4 (k:Int) (aN (at' a4 (k:Int)) x r))))
    (aH (σ:=Int×(List (List GRat))) (0,a4) λ⟨x1,a5⟩ next4=>
     ac (decide (x1<(a4.length:Int)))
      (bM (α:=Bool×(List (List GRat))) (λnext5=>
       ac (x1 != (k:Int))
        (((0:Int)<=x1/\x1<(a5.length:Int))/\
        ((0:Int)<=(k:Int)/\(k:Int)<((at' a5 x1).length:Int))/\
        bh (at' (at' a5 x1) (k:Int)) λr3=>
        next5 ((r3 != 0),a5))
        (next5 (false,a5)))
       λ⟨x2,a6⟩=>
       ac x2
        (((0:Int)<=x1/\x1<(a6.length:Int))/\
        ((0:Int)<=(k:Int)/\(k:Int)<(a6.length:Int))/\
        ((0:Int)<=x1/\x1<(a6.length:Int))/\
        ((0:Int)<=(k:Int)/\(k:Int)<((at' a6 x1).length:Int))/\
        (toNat x1≠toNat (k:Int))/\
        ∃r2,(fz (at' (at' a6 x1) (k:Int)) (at' a6 x1) (at' a6 (k:Int)) λy1=>y1=r2)/\
        r2.length=(at' a6 x1).length/\
        rng (x1+1)/\
        next4 ((x1+1),(aN a6 x1 r2)))
        (rng (x1+1)/\
        next4 ((x1+1),a6)))
      (Qs a5)):=by
 have hS:∀i:Nat,i<n->at' (swp a (k:Int) (r:Int)) (i:Int)=if i=r then at' a (k:Int) else if i=k then at' a (r:Int) else at' a (i:Int):=λi hi=>by
  unfold swp
  have hl:=hM.1
  rw[cm (by rw[bJ];omega)]
  by_cases h:i=r
  ·rw[if_pos h,if_pos h]
  ·rw[if_neg h,if_neg h,cm om]
 have hSl:(swp a (k:Int) (r:Int)).length=n:=by unfold swp;rw[bJ,bJ];exact hM.1
 have hSk:at' (swp a (k:Int) (r:Int)) (k:Int)=at' a (r:Int):=by
  rw[hS k hk]
  by_cases h:k=r
  ·rw[if_pos h,h]
  ·rw[if_neg h,if_pos rfl]
 have hrr:=hM.2 r hr.2
 have hrl:=hrr.1
 rw[hSk]
 refine bQ (n:=m) (λi (y:Int×List (List GRat))=>y.1=(i:Int)/\y.2.length=n/\(∀t:Nat,t<n->t≠k->at' y.2 (t:Int)=at' (swp a (k:Int) (r:Int)) (t:Int))/\(at' y.2 (k:Int)).length=m/\
  ∀j:Nat,j<m->at' (at' y.2 (k:Int)) (j:Int)=if j<i then ay (M r j / M r k) else at' (at' a (r:Int)) (j:Int)) (λy=>y.1) 0
  (λi y h=>by rw[h.1];omega) ⟨rfl,hSl,λt _ _=>rfl,by dsimp only;rw[hSk];exact hrl,λj hj=>by dsimp only;rw[hSk,if_neg om]⟩ ?_ ?_
 ·rintro i ⟨x,a4⟩ next hi ⟨hx,h1,h2,h3,h4⟩ hnx
  dsimp only at hx h1 h2 h3 h4 ⊢
  subst hx
  refine condT (λ_=>⟨om,om,om,?_⟩) (λe=>absurd e om)
  rw[h4 i hi,if_neg om]
  refine S7 (hrr.2 i hi) (hrr.2 k hkm) om hne λhp=>⟨om,zRg,hnx _ ⟨by simp,by rw[bJ];exact h1,λt ht hne'=>?_,?_,λj hj=>?_⟩⟩
  ·dsimp only;rw[cm om,if_neg hne'];exact h2 t ht hne'
  ·dsimp only;rw[cm om,if_pos rfl,bJ];exact h3
  ·dsimp only
   rw[cm om,if_pos rfl,cm om]
   by_cases hji:j=i
   ·subst hji;rw[if_pos rfl,if_pos om]
   ·rw[if_neg hji,h4 j hj]
    by_cases h5:j<i
    ·rw[if_pos h5,if_pos om]
    ·rw[if_neg h5,if_neg om]
 ·rintro⟨x,a4⟩ next ⟨hx,h1,h2,h3,h4⟩
  dsimp only at hx h1 h2 h3 h4 ⊢
  subst hx
  refine condT (λe=>absurd e om) λ_=>?_
  have hpv:Vr (2*B) m (at' a4 (k:Int)) (λj=>M r j / M r k):=⟨h3,λj hj=>by
   rw[h4 j hj,if_pos hj]
   exact(Rp.of (yw (hrr.2 j hj).2.2 (hrr.2 k hkm).2.2) om).mono om⟩
  let U:Nat->Nat->Rat:=λi=>if i=r then M k else M i
  have hot:∀t,t<n->t≠k->Vr B m (at' a4 (t:Int)) (U t):=λt ht hne'=>by
   rw[h2 t ht hne',hS t ht]
   show Vr B m _ (if t=r then M k else M t)
   by_cases h:t=r
   ·rw[if_pos h,if_pos h];exact hM.2 k hk
   ·rw[if_neg h,if_neg hne',if_neg h];exact hM.2 t ht
  refine bQ (n:=n) (λi (y:Int×List (List GRat))=>y.1=(i:Int)/\y.2.length=n/\∀t:Nat,t<n->if t<i/\t≠k then Vr (4*B+1) m (at' y.2 (t:Int)) (qJ M k r t) else at' y.2 (t:Int)=at' a4 (t:Int)) (λy=>y.1) 0
   (λi y h=>by rw[h.1];omega) ⟨rfl,h1,λt _=>by rw[if_neg om]⟩ ?_ ?_
  ·rintro i ⟨x,a5⟩ next hi ⟨hx,g1,g2⟩ hnx
   dsimp only at hx g1 g2 ⊢
   subst hx
   refine condT (λ_=>?_) (λe=>absurd e om)
   have ei:at' a5 (i:Int)=at' a4 (i:Int):=by have:=g2 i hi;rw[if_neg om] at this;exact this
   have ek:at' a5 (k:Int)=at' a4 (k:Int):=by have:=g2 k hk;rw[if_neg om] at this;exact this
   have hst:i≠k->qJ M k r i=λj=>U i j-U i k*(M r j / M r k):=λhik=>by
    funext j
    unfold qJ
    show _=(if i=r then M k else M i) j-(if i=r then M k else M i) k*_
    rw[if_neg hik]
    by_cases h:i=r
    ·rw[if_pos h,if_pos h]
    ·rw[if_neg h,if_neg h]
   refine⟨λz=>z=(decide (i≠k/\U i k≠0),a5),?_,?_⟩
   ·refine ga (λhik=>⟨om,?_,?_⟩) (λhik=>?_)
    ·have:=(hot i hi om).1
     rw[ei];omega
    ·rw[ei]
     refine um ((hot i hi om).2 k hkm) ?_
     have:(gi (U i k) != 0)=decide (i≠k/\U i k≠0):=by
      by_cases h:U i k=0
      ·rw[jq.2 h];simp[h]
      ·have h':gi (U i k)≠0:=λhh=>h (jq.1 hh)
       have hik':i≠k:=λe=>hik (by rw[e])
       simp[h,h',hik']
     rw[this]
    ·have:i=k:=om
     simp[this]
   ·rintro _ rfl
    dsimp only
    refine condT (λhc=>?_) (λhc=>?_)
    ·have hrow:=hot i hi hc.1
     have hl:=hrow.1
     refine⟨om,om,om,by rw[ei];omega,by simp;exact hc.1,sY (at' a4 (i:Int)) (U i) (λj=>M r j / M r k) (U i k) m,?_,?_,zRg,hnx _ ⟨by simp,by rw[bJ];exact g1,λt ht=>?_⟩⟩
     ·rw[ei,ek]
      exact Sc (hrow.2 k hkm) hrow hpv om om rfl
     ·rw[ei,hl];simp[sY]
     ·dsimp only
      rw[cm om]
      by_cases hti:t=i
      ·subst hti
       rw[if_pos rfl,if_pos ⟨om,hc.1⟩,hst hc.1]
       exact(Gy (hrow.2 k hkm) hrow hpv om).mono om
      ·rw[if_neg hti]
       have:=g2 t ht
       by_cases h5:t<i/\t≠k
       ·rw[if_pos ⟨om,h5.2⟩];rw[if_pos h5] at this;exact this
       ·rw[if_neg om];rw[if_neg h5] at this;exact this
    ·refine⟨zRg,hnx _ ⟨by simp,g1,λt ht=>?_⟩⟩
     dsimp only
     have:=g2 t ht
     by_cases hti:t=i
     ·subst hti
      by_cases hik:t=k
      ·rw[if_neg om];exact ei
      ·have h0:U t k=0:=Classical.byContradiction λh=>hc ⟨hik,h⟩
       rw[if_pos ⟨om,hik⟩,ei,hst hik]
       exact((hot t ht hik).mono om).congr λj _=>by rw[h0];grind
     ·by_cases h5:t<i/\t≠k
      ·rw[if_pos ⟨om,h5.2⟩];rw[if_pos h5] at this;exact this
      ·rw[if_neg om];rw[if_neg h5] at this;exact this
  ·rintro⟨x,a5⟩ next ⟨hx,g1,g2⟩
   dsimp only at hx g1 g2 ⊢
   subst hx
   refine condT (λe=>absurd e om) λ_=>hQ _ ⟨g1,λt ht=>?_⟩
   have:=g2 t ht
   by_cases h5:t=k
   ·subst h5
    rw[if_neg om] at this
    rw[this]
    exact(hpv.mono om).congr λj _=>by unfold qJ;rw[if_pos rfl]
   ·rw[if_pos ⟨ht,h5⟩] at this
    exact this
def qe (n:Nat):List Int:=(range n).map λi:Nat=>(i:Int)
theorem FN {n B:Nat} {a:List (List GRat)} {M0:Nat->Nat->Rat} {Q:List (List GRat)->List Int->Prop} (hM:MR B n (n+1) a M0) (h1:1<=n) (hn:n<=256) (hU:Jt n M0) (hb:bd B n<=cap) (hB:1<=B)
  (hQ:∀a' M,MR (bd B n) n (n+1) a' M->UC n n M->tc n (n+1) M0 M->Q a' (qe n)):eI a Q:=by
 unfold eI
 have bdB:∀k,1<=bd B k:=λk=>le_trans hB (xq (B:=B) (zero_le k))
 refine⟨λz=>z.1=(qe n)/\∃M,MR (bd B n) n (n+1) z.2 M/\UC n n M/\tc n (n+1) M0 M,?_,?_⟩
 ·refine bQ (n:=n) (λk (y:Int×List Int×List (List GRat))=>y.1=(k:Int)/\y.2.1=(qe k)/\∃M,MR (bd B k) n (n+1) y.2.2 M/\UC n k M/\tc n (n+1) M0 M) (λy=>y.1) 0
   (λi y h=>by rw[h.1];omega) ⟨rfl,rfl,M0,hM,λi j _ hj=>absurd hj om,λy=>Iff.rfl⟩ ?_ ?_
  ·rintro k ⟨x,pv,a2⟩ next hk ⟨hx,hp,M,hm,hu,hke⟩ hnx
   dsimp only at hx hp hm ⊢
   subst hx hp
   have hal:=hm.1
   have h0:=(hm.2 0 om).1
   have e0:at' a2 0=at' a2 ((0:Nat):Int):=rfl
   have hpl:(qe k).length=k:=by simp[qe]
   refine⟨om,condT (λ_=>condT (λ_=>?_) (λe=>absurd e (by rw[hpl];omega))) (λe=>absurd e (by rw[e0,h0];omega))⟩
   rw[hpl]
   have hUk:Jt n M:=λy hy=>hU y ((hke y).2 hy)
   refine⟨λz=>z.2=a2/\∃r:Nat,z.1=(r:Int)/\k<=r/\r<n/\M r k≠0,?_,?_⟩
   ·refine bQ (n:=n-k) (λi (y:Int)=>y=((k+i:Nat):Int)/\∀r,k<=r->r<k+i->M r k=0) (λy=>y) (k:Int) (λi y h=>by rw[h.1];omega) ⟨by simp,λr h2 h3=>absurd h3 om⟩ ?_ ?_
    ·rintro i _ nx hi ⟨rfl,hz⟩ hnx2
     refine condT (λ_=>⟨om,?_,?_⟩) (λe=>absurd e om)
     ·have:=(hm.2 (k+i) om).1
      omega
     ·refine um ((hm.2 (k+i) om).2 k om) ?_
      refine bv (λe=>⟨zRg,hnx2 _ ⟨om,λr h2 h3=>?_⟩⟩) (λe=>⟨rfl,k+i,rfl,om,om,λh=>e (jq.2 h)⟩)
      by_cases h4:r<k+i
      ·exact hz r h2 h4
      ·have:r=k+i:=om
       rw[this];exact jq.1 e
    ·rintro _ nx ⟨rfl,hz⟩
     obtain⟨r,h2,h3,h4⟩:=Xt hk hu hUk
     exact absurd (hz r h2 om) h4
   ·rintro⟨rw',a3⟩ ⟨h2,r,h3,h4,h5,h6⟩
    dsimp only at h2 h3 ⊢
    subst h2 h3
    refine bv (λe=>absurd e om) λ_=>?_
    have hsl:(at' (swp a3 (k:Int) (r:Int)) (k:Int)).length=n+1:=by
     unfold swp
     rw[cm (by rw[bJ];omega)]
     by_cases h:k=r
     ·rw[if_pos h];exact(hm.2 k hk).1
     ·rw[if_neg h,cm om,if_pos rfl];exact(hm.2 r h5).1
    refine⟨om,om,om,om,om,om,om,?_⟩
    have h7:bd B (k+1)<=cap:=le_trans (xq om) hb
    rw[bd] at h7
    refine zl (B:=bd B k) (Qs:=λa5=>((qe k++[(k:Int)]).length*8<=140737488355328)/\rng ((k:Int)+1)/\next ((k:Int)+1,qe k++[(k:Int)],a5)) hm hk om ⟨h4,h5⟩ h6 hn om h7 (bdB k) λa' ha'=>⟨?_,zRg,hnx _ ⟨by simp,?_,_,ha',Hu hk ⟨h4,h5⟩ h6 hu,hke.trans (FE hk ⟨h4,h5⟩ h6)⟩⟩
    ·simp;omega
    ·simp[qe,range_succ]
  ·rintro⟨x,pv,a2⟩ next ⟨hx,hp,M,hm,hu,hke⟩
   dsimp only at hx hp hm ⊢
   subst hx hp
   have hal:=hm.1
   have hpl:(qe n).length=n:=by simp[qe]
   exact⟨om,condT (λ_=>condT (λe=>absurd e (by rw[hpl];omega)) (λ_=>⟨rfl,M,hm,hu,hke⟩)) (λ_=>⟨rfl,M,hm,hu,hke⟩)⟩
 ·rintro⟨pv,a1⟩ ⟨hp,M,hm,hu,hke⟩
  dsimp only at hp hm ⊢
  subst hp
  have hal:=hm.1
  have hpl:(qe n).length=n:=by simp[qe]
  refine⟨by rw[hpl];omega,?_⟩
  rw[hpl,toNat_natCast,<-hal,take_length,hal]
  exact hQ a1 M hm hu hke
def Ag (n:Nat) (M:Nat->Nat->Rat) (b:Nat->Rat):Nat->Nat->Rat:=λi j=>if j<n then M i j else b i
theorem oM {n B:Nat} {a:List (List GRat)} {b:List GRat} {M:Nat->Nat->Rat} {w x:Nat->Rat} {Q:List GRat->Option Int->Prop} (hM:MR B n n a M) (hw:Vr B n b w) (h1:1<=n) (hn:n<=255) (hB:1<=B) (hb:bd (B+2) n<=cap)
  (hx:∀i,i<n->aB (λj=>M i j*x j) n=w i) (hU:∀y:Nat->Rat,(∀i,i<n->aB (λj=>M i j*y j) n=0)->∀j,j<n->y j=0)
  (hQ:∀l,Vr (bd (B+2) n) n l x->Q l none):gr a b Q:=by
 unfold gr
 have hb2:B+2<=cap:=le_trans (xq (B:=B+2) (zero_le n)) hb
 have hal:=hM.1
 have hwl:=hw.1
 refine vz hM ⟨h1,om⟩ ⟨h1,om⟩ ?_
 refine aJ (λe=>by cases e) λ_=>?_
 refine ga (λe=>absurd e (by rw[hwl,hal];simp)) λ_=>?_
 refine tG hM om om hb2 λall hall=>?_
 have e0:at' a 0=at' a ((0:Nat):Int):=rfl
 have h0:=(hM.2 0 om).1
 rw[e0,h0]
 refine bQ (n:=n) (λi (y:Int×List (List GRat))=>y.1=(i:Int)/\y.2.length=n/\∀r:Nat,r<n->if r<i then Vr (B+2) (n+1) (at' y.2 (r:Int)) (Ag n M w r) else at' y.2 (r:Int)=at' all (r:Int)) (λy=>y.1) 0
  (λi y h=>by rw[h.1];omega) ⟨rfl,hall.1,λr _=>by rw[if_neg om]⟩ ?_ ?_
 ·rintro i ⟨k,al⟩ next hi ⟨hk,g1,g2⟩ hnx
  dsimp only at hk g1 g2 ⊢
  subst hk
  refine condT (λ_=>⟨om,om,?_⟩) (λe=>absurd e om)
  refine oU (hw.2 i hi) (.zero (k:=1) om (by decide)) om λhp=>?_
  rw[Rat.add_zero] at hp ⊢
  have ei:at' al (i:Int)=at' all (i:Int):=by have:=g2 i hi;rw[if_neg om] at this;exact this
  have hrow:=hall.2 i hi
  have hrl:=hrow.1
  rw[ei]
  refine⟨by simp[hrl];omega,om,zRg,hnx _ ⟨by simp,by rw[bJ];exact g1,λr hr=>?_⟩⟩
  dsimp only
  rw[cm om]
  by_cases hri:r=i
  ·subst hri
   rw[if_pos rfl,if_pos om]
   refine⟨by simp[hrl],λj hj=>?_⟩
   unfold Ag
   by_cases hjn:j<n
   ·rw[if_pos hjn,fD om om];exact hrow.2 j hjn
   ·have:j=n:=om
    subst this
    rw[if_neg hjn]
    have e:at' (at' all (r:Int)++[ay (w r)]) (j:Int)=ay (w r):=by
     rw[<-hrl];exact gA
    rw[e];exact hp.mono om
  ·rw[if_neg hri]
   have:=g2 r hr
   by_cases h5:r<i
   ·rw[if_pos om];rw[if_pos h5] at this;exact this
   ·rw[if_neg om];rw[if_neg h5] at this;exact this
 ·rintro⟨k,al⟩ next ⟨hk,g1,g2⟩
  dsimp only at hk g1 g2 ⊢
  subst hk
  refine condT (λe=>absurd e om) λ_=>⟨om,?_⟩
  have hA:MR (B+2) n (n+1) al (Ag n M w):=⟨g1,λr hr=>by have:=g2 r hr;rw[if_pos hr] at this;exact this⟩
  have hdot:∀(y:Nat->Rat) i,dot (Ag n M w) (n+1) i y=aB (λj=>M i j*y j) n+w i*y n:=λy i=>by
   unfold dot
   rw[aB]
   have:Ag n M w i n=w i:=by unfold Ag;rw[if_neg om]
   rw[this]
   congr 1
   exact aX _ λj hj=>by unfold Ag;rw[if_pos hj]
  have hUn:Jt n (Ag n M w):=λy hy hyn=>hU y λi hi=>by
   have:=hy i hi
   rw[hdot,hyn] at this
   grind
  refine FN hA h1 om hUn hb om λa' R hR hu hke=>?_
  have hpl:(qe n).length=n:=by simp[qe]
  rw[hpl]
  have hsol:∀i,i<n->R i n=x i:=λi hi=>by
   have h2:=(hke (λj=>if j<n then x j else -1)).1 (λt ht=>by
    rw[hdot]
    have e1:aB (λj=>M t j*(if j<n then x j else -1)) n=w t:=by
     rw[<-hx t ht]
     exact aX _ λj hj=>by rw[if_pos hj]
    rw[e1,if_neg om];grind) i hi
   have e2:dot R (n+1) i (λj=>if j<n then x j else -1)=aB (λj=>if j=i then x i else 0) n+R i n*(-1):=by
    unfold dot
    rw[aB]
    dsimp only
    rw[if_neg (show ¬n<n by omega)]
    congr 1
    refine aX _ λj hj=>?_
    rw[if_pos hj,hu i j hi hj]
    by_cases h:i=j
    ·subst h;rw[if_pos rfl,if_pos rfl];grind
    ·rw[if_neg h,if_neg (λe=>h e.symm)];grind
   rw[e2,eW (g:=λ_=>x i) n hi] at h2
   grind
  refine jh (condT (λ_=>⟨zRg,om,?_⟩) (λe=>absurd e om))
  have e3:at' (qe n) ((n:Int)-1)=((n-1:Nat):Int):=by
   rw[show(n:Int)-1=((n-1:Nat):Int) by omega]
   exact lL om
  rw[e3]
  refine bv (λe=>absurd e om) λ_=>?_
  refine condT (λe=>absurd e om) λ_=>⟨i_ om om,?_⟩
  have hRl:=hR.1
  refine bQ (n:=n) (λi (y:Int×List GRat)=>y.1=(i:Int)/\y.2.length=n/\∀j:Nat,j<i->Rp (bd (B+2) n) (at' y.2 (j:Int)) (x j)) (λy=>y.1) 0 (λi y h=>by rw[h.1];omega) ⟨rfl,by simp[aQ],λj hj=>absurd hj om⟩ ?_ ?_
  ·rintro i ⟨k,l⟩ nx hi ⟨hk,g3,g4⟩ hnx
   dsimp only at hk g3 g4 ⊢
   subst hk
   have hr2:=hR.2 i hi
   have hr3:=hr2.1
   refine condT (λ_=>⟨om,om,om,zRg,hnx _ ⟨by simp,by rw[bJ];exact g3,λj hj=>?_⟩⟩) (λe=>absurd e (by simp;omega))
   dsimp only
   rw[cm om]
   by_cases h:j=i
   ·subst h;rw[if_pos rfl,<-hsol j hi];exact hr2.2 n om
   ·rw[if_neg h];exact g4 j om
  ·rintro⟨k,l⟩ nx ⟨hk,g3,g4⟩
   dsimp only at hk g3 g4 ⊢
   subst hk
   exact condT (λe=>absurd e zSm) λ_=>hQ l ⟨g3,g4⟩
structure Ch (c:GChain) (N:Nat):Prop where
 st:c.H=N
 n1:1<=N
 n2:N<=256
 ml:c.V.length<=1000000
 mv:∀i:Nat,i<c.V.length->(0<=(at' c.V (i:Int)).D/\(at' c.V (i:Int)).D<N)/\(0<=(at' c.V (i:Int)).To/\(at' c.V (i:Int)).To<N)
def MvS (c:GChain) (s t:Nat):Prop:=∃m∈c.V,m.D=(s:Int)/\m.To=(t:Int)
inductive Rch (c:GChain) (s:Nat):Nat->Prop
 | refl:Rch c s s
 | step {t u:Nat} (h:Rch c s t) (hm:MvS c t u):Rch c s u
theorem Rch.trans {c:GChain} {s t u:Nat} (h:Rch c s t) (h':Rch c t u):Rch c s u:=by
 induction h' with
 | refl=>exact h
 | step _ hm ih=>exact ih.step hm
def uns:List Bool->Nat
 | []=>0
 | b :: l=>(if b then 0 else 1)+uns l
theorem Bn:∀n,uns (List.replicate n false)=n
 | 0=>rfl
 | n+1=>by rw[List.replicate_succ,uns,Bn n];simp;omega
theorem Bm:∀ {l:List Bool} {i:Nat},i<l.length->l.getD i false=false->uns (l.set i true)+1=uns l
 | [],i,h,_=>by simp at h
 | b :: l,0,_,h=>by
  simp at h
  subst h
  simp[uns];omega
 | b :: l,i+1,h,h'=>by
  have:=Bm (l:=l) (i:=i) (by simpa using h) (by simpa using h')
  rw[List.set_cons_succ,uns,uns];omega
theorem ua {l:List Bool} {i:Nat} (h:i<l.length) (hb:at' l (i:Int)=false):uns (aN l (i:Int) true)+1=uns l:=by
 unfold aN
 rw[toNat_natCast]
 exact Bm h (by simpa[at'] using hb)
structure Dfs (c:GChain) (N s:Nat) (seen:List Bool) (list:List Int):Prop where
 len:seen.length=N
 me:at' seen (s:Int)=true
 rch:∀t:Nat,t<N->at' seen (t:Int)=true->Rch c s t
 ls:∀x∈list,∃t:Nat,x=(t:Int)/\t<N/\at' seen (t:Int)=true
 cnt:uns seen+list.length<=N
def clo (c:GChain) (N:Nat) (seen:List Bool) (list:List Int):Prop:=∀t u:Nat,t<N->at' seen (t:Int)=true->(t:Int)∉list->MvS c t u->at' seen (u:Int)=true
theorem Ch.mv_lt {c:GChain} {N:Nat} (h:Ch c N) {s t:Nat} (hm:MvS c s t):s<N/\t<N:=by
 obtain⟨m,hm,h1,h2⟩:=hm
 obtain⟨i,hi,rfl⟩:=getElem_of_mem hm
 have:=h.mv i hi
 rw[bX hi] at this
 omega
theorem Dfs.push {c:GChain} {N s t u:Nat} {seen:List Bool} {list:List Int} (h:Dfs c N s seen list) (ht:Rch c s t) (hm:MvS c t u) (hu:u<N) (hb:at' seen (u:Int)=false):Dfs c N s (aN seen (u:Int) true) (list++[(u:Int)]):=by
 have hl:=h.len
 have hat:∀j:Nat,at' (aN seen (u:Int) true) (j:Int)=if j=u then true else at' seen (j:Int):=λj=>cm om
 refine⟨by rw[bJ];exact h.len,?_,λj hj hs=>?_,λx hx=>?_,?_⟩
 ·rw[hat];split<;>first | rfl | exact h.me
 ·rw[hat] at hs
  by_cases hju:j=u
  ·subst hju;exact ht.step hm
  ·rw[if_neg hju] at hs;exact h.rch j hj hs
 ·rcases List.mem_append.1 hx with hx | hx
  ·obtain⟨j,e,hj,hs⟩:=h.ls x hx
   exact⟨j,e,hj,by rw[hat];split<;>first | rfl | exact hs⟩
  ·simp at hx
   exact⟨u,hx,hu,by rw[hat,if_pos rfl]⟩
 ·have:=ua (l:=seen) (i:=u) om hb
  have:=h.cnt
  rw[length_append,length_singleton];omega
def nxt (l:List GMove) (s:Nat):List Int:=(l.filter λm=>decide (m.D=(s:Int))).map (·.To)
theorem BW {c:GChain} {N s:Nat} {x:Int} (h:Ch c N) (hx:x∈nxt c.V s):∃t:Nat,x=(t:Int)/\t<N/\MvS c s t:=by
 obtain⟨m,hm,rfl⟩:=List.mem_map.1 hx
 obtain⟨hm,hf⟩:=List.mem_filter.1 hm
 obtain⟨i,hi,rfl⟩:=getElem_of_mem hm
 have:=h.mv i hi
 rw[bX hi] at this
 exact⟨c.V[i].To.toNat,om,om,_,hm,by simpa using hf,om⟩
theorem H3 {c:GChain} {s t:Nat} (h:MvS c s t):(t:Int)∈nxt c.V s:=by
 obtain⟨m,hm,h1,h2⟩:=h
 exact List.mem_map.2 ⟨m,List.mem_filter.2 ⟨hm,by simp[h1]⟩,h2⟩
theorem BX {l:List GMove} {s:Nat}:(nxt l s).length<=l.length:=by
 unfold nxt;rw[length_map];exact List.length_filter_le ..
theorem Gn {l:List GMove} {m:GMove} {s:Nat}:nxt (l++[m]) s=if m.D=(s:Int) then nxt l s++[m.To] else nxt l s:=by
 unfold nxt
 rw[List.filter_append]
 by_cases h:m.D=(s:Int)
 ·rw[if_pos h];simp[h]
 ·rw[if_neg h];simp[h]
theorem Cz {l:List GMove} {i:Nat} (h:i<l.length):l.take (i+1)=l.take i++[at' l (i:Int)]:=by
 rw[bX h,List.take_succ_eq_append_getElem h]
theorem Y4 {c:GChain} {N s:Nat} {nx1:List (List Int)} {Q:List Bool->Prop} (h:Ch c N) (hs:s<N) (hnl:nx1.length=N) (hnx:∀t:Nat,t<N->at' nx1 (t:Int)=nxt c.V t)
  (hQ:∀seen,seen.length=N->(∀t:Nat,t<N->(at' seen (t:Int)=true↔Rch c s t))->Q seen) :
  aH (σ:=(List Bool)×(List Int)) ((aN (aQ c.H false) (s:Int) true),[(s:Int)]) λ⟨seen1,list⟩ next4=>
   ac (decide (0<(list.length:Int)))
    (rng ((list.length:Int)-1)/\
    ((0:Int)<=((list.length:Int)-1)/\((list.length:Int)-1)<(list.length:Int))/\
    rng ((list.length:Int)-1)/\
    ((0:Int)<=0/\0<=((list.length:Int)-1)/\((list.length:Int)-1)<=(list.length:Int))/\
    iS (List.take (toNat ((list.length:Int)-1)) list) λlist1=>
    ((0:Int)<=(at' list ((list.length:Int)-1))/\(at' list ((list.length:Int)-1))<(nx1.length:Int))/\
    aH (σ:=Int×(List Bool)×(List Int)) (0,seen1,list1) λ⟨x2,seen2,list2⟩ next5=>
     ac (decide (x2<((at' nx1 (at' list ((list.length:Int)-1))).length:Int)))
      (((0:Int)<=x2/\x2<((at' nx1 (at' list ((list.length:Int)-1))).length:Int))/\
      iS (at' (at' nx1 (at' list ((list.length:Int)-1))) x2) λto=>
      ((0:Int)<=to/\to<(seen2.length:Int))/\
      ac (!(at' seen2 to))
       (((0:Int)<=to/\to<(seen2.length:Int))/\
       ((list2++[to]).length*8<=140737488355328)/\
       rng (x2+1)/\
       next5 ((x2+1),(aN seen2 to true),(list2++[to])))
       (rng (x2+1)/\
       next5 ((x2+1),seen2,list2)))
      (next4 (seen2,list2)))
    (Q seen1):=by
 have hn2:=h.n2
 refine⟨λy=>Dfs c N s y.1 y.2/\clo c N y.1 y.2,λy=>2*uns y.1+y.2.length,⟨?_,?_⟩,?_⟩
 ·dsimp only
  rw[h.st]
  have hl:(aQ (N:Int) false).length=N:=by simp[aQ]
  have hat:∀j:Nat,at' (aN (aQ (N:Int) false) (s:Int) true) (j:Int)=if j=s then true else at' (aQ (N:Int) false) (j:Int):=λj=>cm om
  have h0:∀j:Nat,at' (aQ (N:Int) false) (j:Int)=false:=λj=>by
   simp only[at',aQ,toNat_natCast,List.getD_eq_getElem?_getD,List.getElem?_replicate]
   split<;>rfl
  refine⟨by rw[bJ];exact hl,by rw[hat,if_pos rfl],λt _ ht=>?_,λx hx=>?_,?_⟩
  ·rw[hat] at ht
   by_cases e:t=s
   ·subst e;exact .refl
   ·rw[if_neg e,h0] at ht;cases ht
  ·simp at hx;exact⟨s,hx,hs,by rw[hat,if_pos rfl]⟩
  ·have:=ua (l:=aQ (N:Int) false) (i:=s) om (h0 s)
   have e:uns (aQ (N:Int) false)=N:=by unfold aQ;rw[toNat_natCast];exact Bn N
   simp only[length_singleton];omega
 ·dsimp only
  intro t u _ ht hn _
  exfalso
  rw[h.st,cm (by simp[aQ];omega)] at ht
  by_cases e:t=s
  ·exact hn (by simp[e])
  ·rw[if_neg e] at ht
   simp only[at',aQ,toNat_natCast,List.getD_eq_getElem?_getD,List.getElem?_replicate] at ht
   split at ht<;>cases ht
 ·rintro⟨seen,list⟩ ⟨hd,hc⟩
  dsimp only at hd hc ⊢
  refine condT (λhl=>?_) (λhl=>?_)
  ·have hcnt:=hd.cnt
   have hlast:=hd.ls (at' list ((list.length:Int)-1)) (by
    rw[show(list.length:Int)-1=((list.length-1:Nat):Int) by omega]
    exact kE om)
   obtain⟨t,et,ht,hts⟩:=hlast
   rw[et]
   refine⟨zRg,om,zRg,om,gt ⟨om,?_⟩⟩
   rw[hnx t ht]
   have hlist:list=list.take (list.length-1)++[(t:Int)]:=by
    have e1:list=list.take (list.length-1)++[list[list.length-1]'om]:=by
     have:=List.take_succ_eq_append_getElem (l:=list) (i:=list.length-1) om
     rw[show list.length-1+1=list.length by omega,take_length] at this
     exact this
    have e2:list[list.length-1]'om=(t:Int):=by
     rw[<-bX om,<-et]
     congr 1;omega
    rw[e2] at e1;exact e1
   have htk:toNat ((list.length:Int)-1)=list.length-1:=om
   rw[htk]
   have hl1:(list.take (list.length-1)).length=list.length-1:=by simp
   refine bQ (n:=(nxt c.V t).length) (λi (y:Int×List Bool×List Int)=>y.1=(i:Int)/\Dfs c N s y.2.1 y.2.2/\(∀j:Nat,at' seen (j:Int)=true->at' y.2.1 (j:Int)=true)/\
     (∀j:Nat,j<i->at' y.2.1 (at' (nxt c.V t) (j:Int))=true)/\(∀a b:Nat,a<N->a≠t->at' y.2.1 (a:Int)=true->(a:Int)∉y.2.2->MvS c a b->at' y.2.1 (b:Int)=true)/\2*uns y.2.1+y.2.2.length<2*uns seen+list.length) (λy=>y.1) 0
    (λi y h=>by rw[h.1];omega) ⟨rfl,⟨hd.len,hd.me,hd.rch,λx hx=>hd.ls x (List.mem_of_mem_take hx),by dsimp only;rw[hl1];omega⟩,λj hj=>hj,λj hj=>absurd hj om,λa b ha hat hs hn hm=>hc a b ha hs (λhh=>hn (by
     dsimp only
     rw[hlist] at hh
     rcases List.mem_append.1 hh with hh | hh
     ·exact hh
     ·exact absurd (by simpa using hh:(a:Int)=(t:Int)) om)) hm,by dsimp only;rw[hl1];omega⟩ ?_ ?_
   ·rintro i ⟨x,s2,l2⟩ nx hi ⟨hx,g1,g2,g3,g4,g5⟩ hnx2
    dsimp only at hx g1 g2 g3 g4 g5 ⊢
    subst hx
    have hnl2:=BX (l:=c.V) (s:=t)
    have hml:=h.ml
    have hcnt2:=g1.cnt
    obtain⟨u,eu,hu,hmu⟩:=BW h (kE hi)
    have hlen:=g1.len
    refine condT (λ_=>⟨om,gt ?_⟩) (λe=>absurd e om)
    rw[eu]
    refine⟨om,aJ (λhb=>⟨om,by simp;omega,zRg,?_⟩) (λhb=>⟨zRg,?_⟩)⟩
    ·have hb':at' s2 (u:Int)=false:=by simpa using hb
     have hat:∀j:Nat,at' (aN s2 (u:Int) true) (j:Int)=if j=u then true else at' s2 (j:Int):=λj=>cm om
     refine hnx2 _ ⟨by simp,g1.push (hd.rch t ht hts) hmu hu hb',λj hj=>?_,λj hj=>?_,λa b ha hat' hs' hn hm=>?_,?_⟩
     ·dsimp only;rw[hat];split<;>first | rfl | exact g2 j hj
     ·dsimp only
      by_cases hji:j=i
      ·subst hji;rw[eu,hat,if_pos rfl]
      ·obtain⟨v,ev,_,_⟩:=BW h (kE (l:=nxt c.V t) (i:=j) om)
       have:=g3 j om
       rw[ev] at this ⊢
       rw[hat];split<;>first | rfl | exact this
     ·dsimp only at hs' hn ⊢
      rw[hat] at hs' ⊢
      by_cases hau:a=u
      ·exact absurd (List.mem_append_right _ (by simp[hau])) hn
      ·rw[if_neg hau] at hs'
       have:=g4 a b ha hat' hs' (λhh=>hn (List.mem_append_left _ hh)) hm
       split<;>first | rfl | exact this
     ·have:=ua (l:=s2) (i:=u) om hb'
      simp only[length_append,length_singleton];omega
    ·have hb':at' s2 (u:Int)=true:=by simpa using hb
     refine hnx2 _ ⟨by simp,g1,g2,λj hj=>?_,g4,g5⟩
     by_cases hji:j=i
     ·subst hji;rw[eu];exact hb'
     ·exact g3 j om
   ·rintro⟨x,s2,l2⟩ nx ⟨hx,g1,g2,g3,g4,g5⟩
    dsimp only at hx g1 g2 g3 g4 g5 ⊢
    subst hx
    refine condT (λe=>absurd e om) λ_=>⟨⟨g1,λa b ha hs' hn hm=>?_⟩,g5⟩
    by_cases hat':a=t
    ·subst hat'
     obtain⟨i,hi,e⟩:=getElem_of_mem (H3 hm)
     have:=g3 i hi
     rw[bX hi,e] at this
     exact this
    ·exact g4 a b ha hat' hs' hn hm
  ·have hnil:list=[]:=List.eq_nil_of_length_eq_zero om
   subst hnil
   refine hQ seen hd.len λt ht=>⟨hd.rch t ht,λhr=>?_⟩
   clear ht
   induction hr with
   | refl=>exact hd.me
   | step h1 hm ih=>exact hc _ _ (h.mv_lt hm).1 ih zSm hm
theorem p_ {c:GChain} {N:Nat} {Q:List (List Bool)->Prop} (h:Ch c N)
  (hQ:∀r:List (List Bool),r.length=N->(∀s:Nat,s<N->(at' r (s:Int)).length=N/\∀t:Nat,t<N->(at' (at' r (s:Int)) (t:Int)=true↔Rch c s t))->Q r):fE c Q:=by
 unfold fE
 have hn2:=h.n2
 have hml:=h.ml
 have hst:=h.st
 refine⟨by rw[hst];exact i_ om om,?_⟩
 refine bQ (n:=c.V.length) (λi (y:Int×List (List Int))=>y.1=(i:Int)/\y.2.length=N/\∀t:Nat,t<N->at' y.2 (t:Int)=nxt (c.V.take i) t) (λy=>y.1) 0
  (λi y h=>by rw[h.1];omega) ⟨rfl,by simp[aQ,hst],λt ht=>by
   rw[hst]
   simp[aQ,at',nxt,List.getD_eq_getElem?_getD,ht]⟩ ?_ ?_
 ·rintro i ⟨x,nx⟩ next hi ⟨hx,hl,ha⟩ hnx
  dsimp only at hx hl ha ⊢
  subst hx
  have hmv:=h.mv i hi
  obtain⟨s,es⟩:∃s:Nat,(at' c.V (i:Int)).D=(s:Int):=⟨(at' c.V (i:Int)).D.toNat,om⟩
  rw[es] at hmv ⊢
  have hs:s<N:=om
  have hln:(nxt (c.V.take i) s).length<=c.V.length:=le_trans BX (by simp;omega)
  refine condT (λ_=>⟨om,om,by rw[ha s hs,length_append,length_singleton];omega,om,zRg,hnx _ ⟨by simp,by rw[bJ];exact hl,λt ht=>?_⟩⟩) (λe=>absurd e om)
  dsimp only
  rw[cm om,Cz hi,Gn,es]
  by_cases hts:t=s
  ·subst hts;rw[if_pos rfl,if_pos rfl,ha t ht]
  ·rw[if_neg hts,if_neg om,ha t ht]
 ·rintro⟨x,nx⟩ next ⟨hx,hl,ha⟩
  dsimp only at hx hl ha ⊢
  subst hx
  refine condT (λe=>absurd e om) λ_=>?_
  rw[take_length] at ha
  refine bQ (n:=N) (λi (y:Int×List (List Bool))=>y.1=(i:Int)/\y.2.length=i/\∀s:Nat,s<i->(at' y.2 (s:Int)).length=N/\∀t:Nat,t<N->(at' (at' y.2 (s:Int)) (t:Int)=true↔Rch c s t)) (λy=>y.1) 0
   (λi y h=>by rw[h.1];omega) ⟨rfl,rfl,λs hs=>absurd hs om⟩ ?_ ?_
  ·rintro i ⟨x,out⟩ nx2 hi ⟨hx,ho,hr⟩ hnx
   dsimp only at hx ho hr ⊢
   subst hx
   refine condT (λ_=>⟨by rw[hst];exact i_ om om,by rw[hst,toNat_natCast];omega,?_⟩) (λe=>absurd e om)
   refine Y4 (Q:=λseen1=>((out++[seen1]).length*24<=140737488355328)/\rng ((i:Int)+1)/\nx2 ((i:Int)+1,out++[seen1])) h hi hl ha λseen hsl hsr=>⟨by simp;omega,zRg,hnx _ ⟨by simp,by simp[ho],λs hs=>?_⟩⟩
   dsimp only
   by_cases hsi:s=i
   ·subst hsi
    have e:at' (out++[seen]) (s:Int)=seen:=by rw[<-ho];exact gA
    rw[e];exact⟨hsl,hsr⟩
   ·rw[fD om om];exact hr s om
  ·rintro⟨x,out⟩ nx2 ⟨hx,ho,hr⟩
   dsimp only at hx ho hr ⊢
   subst hx
   exact condT (λe=>absurd e om) λ_=>hQ out ho hr
structure Cls (c:GChain) (N:Nat) (C:Nat->Bool) (i0:Nat):Prop where
 lt:i0<N
 me:C i0=true
 all:∀s,s<N->Rch c s i0
 cl:∀s t,s<N->C s=true->Rch c s t->C t=true
 bk:∀t,t<N->C t=true->Rch c i0 t
 le:∀t,t<N->C t=true->i0<=t
theorem Cls.rch {c:GChain} {N:Nat} {C:Nat->Bool} {i0 t:Nat} (h:Cls c N C i0) (ht:t<N):Rch c i0 t↔C t=true:=⟨h.cl i0 t h.lt h.me,h.bk t ht⟩
def dY (C:Nat->Bool) (k:Nat):List Int:=((range k).filter C).map λi:Nat=>(i:Int)
theorem kL {C:Nat->Bool} {k:Nat}:dY C (k+1)=if C k=true then dY C k++[(k:Int)] else dY C k:=by
 unfold dY
 rw[range_succ,List.filter_append]
 by_cases h:C k=true
 ·rw[if_pos h];simp[h]
 ·rw[if_neg h];simp[h]
theorem Ab {C:Nat->Bool} {k:Nat}:(dY C k).length<=k:=by
 unfold dY
 rw[length_map]
 exact le_trans (List.length_filter_le ..) zSm
def okP (c:GChain) (s k:Nat):Prop:=∀t,t<k->Rch c s t->Rch c t s/\s<=t
theorem kq {c:GChain} {N:Nat} {C:Nat->Bool} {i0:Nat} {Q:List (List Int)->Prop} (h:Ch c N) (hc:Cls c N C i0) (hQ:Q [dY C N]):dR c Q:=by
 unfold dR
 have hn2:=h.n2
 refine p_ h λr hr hrr=>?_
 have hok:∀s,s<N->(okP c s N↔s=i0):=λs hs=>by
  constructor
  ·intro ho
   have h1:=ho i0 hc.lt (hc.all s hs)
   have h2:=hc.cl i0 s hc.lt hc.me h1.1
   have:=hc.le s hs h2
   omega
  ·rintro rfl t ht hrt
   exact⟨hc.all t ht,hc.le t ht (hc.cl _ _ hc.lt hc.me hrt)⟩
 refine bQ (n:=N) (λi (y:Int×List (List Int))=>y.1=(i:Int)/\y.2=if i0<i then [dY C N] else []) (λy=>y.1) 0 (λi y h=>by rw[h.1];omega) ⟨rfl,by rw[if_neg om]⟩ ?_ ?_
 ·rintro s ⟨x,out⟩ next hs ⟨hx,ho⟩ hnx
  dsimp only at hx ho ⊢
  subst hx
  have hrow:=hrr s hs
  have hrl:=hrow.1
  refine condT (λ_=>⟨om,?_⟩) (λe=>absurd e om)
  refine bQ (n:=N) (λk (y:Bool×Int×List Int)=>y.2.1=(k:Int)/\(y.1=true↔okP c s k)/\y.2.2.length<=k/\(s=i0->y.2.2=dY C k)) (λy=>y.2.1) 0 (λi y h=>by rw[h.1];omega)
   ⟨rfl,⟨λ_ t ht=>absurd ht om,λ_=>rfl⟩,le_refl _,λ_=>rfl⟩ ?_ ?_
  ·rintro k ⟨ok,x1,cl⟩ nx hk ⟨hx,hok',hcl,hce⟩ hnx2
   dsimp only at hx hok' hcl hce ⊢
   subst hx
   have hb:=hrow.2 k hk
   have hrk:=hrr k hk
   have hrkl:=hrk.1
   have hbk:=hrk.2 s hs
   refine condT (λ_=>⟨om,aJ (λhn=>⟨zRg,hnx2 _ ⟨by simp,?_,by dsimp only;omega,λe=>?_⟩⟩) (λhn=>?_)⟩) (λe=>absurd e om)
   ·dsimp only
    rw[hok']
    have hnr:¬Rch c s k:=λhh=>by rw[hb.2 hh] at hn;cases hn
    constructor
    ·intro ho2 t ht hrt
     by_cases e:t=k
     ·subst e;exact absurd hrt hnr
     ·exact ho2 t om hrt
    ·exact λho2 t ht hrt=>ho2 t om hrt
   ·dsimp only
    subst e
    have:¬C k=true:=λhh=>by
     have:=hb.2 (hc.bk k hk hh)
     rw[this] at hn;cases hn
    rw[hce rfl,kL,if_neg this]
   ·have hrt:Rch c s k:=hb.1 (by simpa using hn)
    have hres:∀z:Bool,(z=true↔(ok=true/\at' (at' r (k:Int)) (s:Int)=true/\s<=k))->((cl++[(k:Int)]).length*8<=140737488355328)/\rng ((k:Int)+1)/\nx (z,((k:Int)+1),(cl++[(k:Int)])):=λz hz=>by
     refine⟨by simp;omega,zRg,hnx2 _ ⟨by simp,?_,by simp;omega,λe=>?_⟩⟩
     ·dsimp only
      rw[hz,hok']
      constructor
      ·rintro⟨h1,h2,h3⟩ t ht hrt2
       by_cases e:t=k
       ·subst e;exact⟨hbk.1 h2,h3⟩
       ·exact h1 t om hrt2
      ·exact λh1=>⟨λt ht hrt2=>h1 t om hrt2,hbk.2 (h1 k om hrt).1,(h1 k om hrt).2⟩
     ·dsimp only
      subst e
      rw[hce rfl,kL,if_pos ((hc.rch hk).1 hrt)]
    refine⟨λz=>(z=true↔(ok=true/\at' (at' r (k:Int)) (s:Int)=true/\s<=k)),?_,λz hz=>hres z hz⟩
    refine aJ (λh1=>⟨om,om,aJ (λh2=>?_) (λh2=>?_)⟩) (λh1=>?_)
    ·simp[h1,h2]
    ·simp[h2]
    ·simp[h1]
  ·rintro⟨ok,x1,cl⟩ nx ⟨hx,hok',hcl,hce⟩
   dsimp only at hx hok' hcl hce ⊢
   subst hx
   refine condT (λe=>absurd e om) λ_=>aJ (λh1=>?_) (λh1=>?_)
   ·have e:=(hok s hs).1 (hok'.1 h1)
    have hno:out=[]:=by rw[ho,if_neg om]
    subst hno
    exact⟨by simp,zRg,hnx _ ⟨by simp,by dsimp only;rw[if_pos om,hce e];rfl⟩⟩
   ·have e:¬s=i0:=λe=>by rw[hok'.2 ((hok s hs).2 e)] at h1;cases h1
    refine⟨zRg,hnx _ ⟨by simp,?_⟩⟩
    dsimp only
    rw[ho]
    by_cases h2:i0<s
    ·rw[if_pos h2,if_pos om]
    ·rw[if_neg h2,if_neg om]
 ·rintro⟨x,out⟩ next ⟨hx,ho⟩
  dsimp only at hx ho ⊢
  subst hx
  have:=hc.lt
  rw[if_pos this] at ho
  subst ho
  exact condT (λe=>absurd e om) λ_=>hQ
theorem Vr.set {B B' m j:Nat} {l:List GRat} {f:Nat->Rat} {x:GRat} {q:Rat} (h:Vr B m l f) (hj:j<m) (hx:Rp B' x q) (hb:B<=B'):Vr B' m (aN l (j:Int) x) (λt=>if t=j then q else f t):=by
 have hl:=h.1
 refine⟨by rw[bJ];exact h.1,λt ht=>?_⟩
 rw[cm om]
 dsimp only
 by_cases e:t=j
 ·rw[if_pos e,if_pos e];exact hx
 ·rw[if_neg e,if_neg e];exact(h.2 t ht).mono hb
theorem MR.set {B B' n m i:Nat} {a:List (List GRat)} {M:Nat->Nat->Rat} {row:List GRat} {f:Nat->Rat} (h:MR B n m a M) (hi:i<n) (hr:Vr B' m row f) (hb:B<=B'):MR B' n m (aN a (i:Int) row) (λr=>if r=i then f else M r):=by
 have hl:=h.1
 refine⟨by rw[bJ];exact h.1,λt ht=>?_⟩
 rw[cm om]
 dsimp only
 by_cases e:t=i
 ·rw[if_pos e,if_pos e];exact hr
 ·rw[if_neg e,if_neg e];exact(h.2 t ht).mono hb
theorem MR.congr {B n m:Nat} {a:List (List GRat)} {M M':Nat->Nat->Rat} (h:MR B n m a M) (e:∀i j,i<n->j<m->M i j=M' i j):MR B n m a M':=⟨h.1,λi hi=>(h.2 i hi).congr λj hj=>e i j hi hj⟩
theorem yA {m:Nat}:Vr 1 m (aQ (m:Int) (⟨false,[],[]⟩:GRat)) (λ_=>0):=⟨by simp[aQ],λj hj=>by
 have:at' (aQ (m:Int) (⟨false,[],[]⟩:GRat)) (j:Int)=⟨false,[],[]⟩:=by simp[aQ,at',List.getD_eq_getElem?_getD,hj]
 rw[this];exact .zero om (by decide)⟩
def clF (C:Nat->Bool) (N j:Nat):Nat:=(at' (dY C N) (j:Int)).toNat
theorem mX {C:Nat->Bool} {N j:Nat} (h:j<(dY C N).length):at' (dY C N) (j:Int)=(clF C N j:Int)/\clF C N j<N/\C (clF C N j)=true:=by
 have hm:at' (dY C N) (j:Int)∈dY C N:=kE h
 unfold dY at hm
 obtain⟨t,ht,e⟩:=List.mem_map.1 hm
 obtain⟨h1,h2⟩:=List.mem_filter.1 ht
 have e':at' (dY C N) (j:Int)=(t:Int):=e.symm
 have e2:clF C N j=t:=by unfold clF;rw[e'];simp
 rw[e2]
 exact⟨e',List.mem_range.1 h1,h2⟩
theorem oQ {C:Nat->Bool} {N i j:Nat} (hi:i<(dY C N).length) (hj:j<(dY C N).length) (h:clF C N i=clF C N j):i=j:=by
 have hnd:(dY C N).Pairwise (· < ·):=by
  unfold dY
  exact((List.pairwise_lt_range (n:=N)).filter C).map _ (λa b (e:a<b)=>show(a:Int)<(b:Int) by omega)
 have hp:=List.pairwise_iff_getElem.1 hnd
 have e:(dY C N)[i]=(dY C N)[j]:=by
  rw[<-bX hi,<-bX hj,(mX hi).1,(mX hj).1,h]
 rcases Nat.lt_trichotomy i j with hl | hl | hl
 ·have:=hp i j hi hj hl;omega
 ·exact hl
 ·have:=hp j i hj hi hl;omega
theorem qu {C:Nat->Bool} {N t:Nat} (ht:t<N) (hc:C t=true):∃j,j<(dY C N).length/\clF C N j=t:=by
 have:(t:Int)∈dY C N:=List.mem_map.2 ⟨t,List.mem_filter.2 ⟨List.mem_range.2 ht,hc⟩,rfl⟩
 obtain⟨j,hj,e⟩:=getElem_of_mem this
 refine⟨j,hj,?_⟩
 have:=(mX hj).1
 rw[bX hj,e] at this
 omega
def gM (C:Nat->Bool) (N K j:Nat) (m:GMove):Rat:=(if m.D=(clF C N j:Int)/\m.To=(clF C N K:Int) then aF m.X else 0)-(if m.D=(clF C N j:Int)/\K=j then aF m.X else 0)
def nQ (c:GChain) (C:Nat->Bool) (N:Nat):Nat->Nat->Rat:=λK j=>dE (gM C N K j) c.V
theorem pZ {g:Nat->GMove->Rat} {n:Nat}:∀l:List GMove,aB (λi=>dE (g i) l) n=dE (λm=>aB (λi=>g i m) n) l
 | []=>e_ n λ_ _=>rfl
 | m :: l=>by
  rw[dE,<-pZ l]
  show aB (λi=>g i m+dE (g i) l) n=_
  rw[jb]
theorem xb {g:GMove->Rat}:∀ {l:List GMove},(∀m∈l,g m=0)->dE g l=0
 | [],_=>rfl
 | m :: l,h=>by
  rw[dE,h m zSm,xb (l:=l) λx hx=>h x (by simp[hx]),Rat.add_zero]
theorem xc {g:GMove->Rat} {q:Rat}:∀l:List GMove,dE g l*q=dE (λm=>g m*q) l
 | []=>by rw[dE,dE,Rat.zero_mul]
 | m :: l=>by rw[dE,dE,<-xc l];grind
structure Ch2 (c:GChain) (N k:Nat):Prop extends Ch c N where
 ne:∀i:Nat,i<c.V.length->(at' c.V (i:Int)).D≠(at' c.V (i:Int)).To
 rt:∀i:Nat,i<c.V.length->Rp k (at' c.V (i:Int)).X (aF (at' c.V (i:Int)).X)
theorem GN {c:GChain} {N k i0 j:Nat} {C:Nat->Bool} (h:Ch2 c N k) (hc:Cls c N C i0) (hj:j<(dY C N).length):aB (λK=>nQ c C N K j) (dY C N).length=0:=by
 unfold nQ
 rw[pZ]
 refine xb λm hm=>?_
 obtain⟨i,hi,rfl⟩:=getElem_of_mem hm
 have hmv:=h.mv i hi
 rw[bX hi] at hmv
 by_cases hf:c.V[i].D=(clF C N j:Int)
 ·obtain⟨t,ht⟩:∃t:Nat,c.V[i].To=(t:Int):=⟨c.V[i].To.toNat,om⟩
  have htC:C t=true:=hc.cl _ t (mX hj).2.1 (mX hj).2.2 (.step .refl ⟨_,hm,hf,ht⟩)
  obtain⟨jt,hjt,ejt⟩:=qu (C:=C) (N:=N) (t:=t) om htC
  have e:aB (λK=>gM C N K j c.V[i]) (dY C N).length=aB (λK=>if K=jt then aF c.V[i].X else 0) (dY C N).length-aB (λK=>if K=j then aF c.V[i].X else 0) (dY C N).length:=by
   rw[pY]
   refine aX _ λK hK=>?_
   unfold gM
   rw[ht,<-ejt]
   have c1:(c.V[i].D=(clF C N j:Int)/\(clF C N jt:Int)=(clF C N K:Int))↔K=jt:=⟨λe=>oQ hK hjt om,λe=>⟨hf,by rw[e]⟩⟩
   have c2:(c.V[i].D=(clF C N j:Int)/\K=j)↔K=j:=⟨λe=>e.2,λe=>⟨hf,e⟩⟩
   simp only[c1,c2]
  rw[e,eW (g:=λ_=>aF c.V[i].X) _ hjt,eW (g:=λ_=>aF c.V[i].X) _ hj]
  grind
 ·refine e_ _ λK _=>?_
  unfold gM
  rw[if_neg λe=>hf e.1,if_neg λe=>hf e.1];grind
theorem MR.mono {B B' n m:Nat} {a:List (List GRat)} {M:Nat->Nat->Rat} (h:MR B n m a M) (hb:B<=B'):MR B' n m a M:=⟨h.1,λi hi=>(h.2 i hi).mono hb⟩
theorem YL {C:Nat->Bool} {N n K j jf jt:Nat} {m:GMove} (hn:(dY C N).length=n) (hj:j<n) (hK:K<n) (hjf:jf<n) (hjt:jt<n) (ef:m.D=(clF C N jf:Int)) (et:m.To=(clF C N jt:Int)):gM C N K j m=if j=jf then (if K=jt then aF m.X else 0)-(if K=jf then aF m.X else 0) else 0:=by
 subst hn
 unfold gM
 have c1:m.D=(clF C N j:Int)↔j=jf:=⟨λe=>oQ hj hjf om,λe=>by rw[e];exact ef⟩
 have c2:m.To=(clF C N K:Int)↔K=jt:=⟨λe=>oQ hK hjt om,λe=>by rw[e];exact et⟩
 simp only[c1,c2]
 by_cases e1:j=jf
 ·subst e1;simp only[true_and];rfl
 ·simp only[e1,false_and];simp only[if_false];grind
theorem aae {c:GChain} {k i:Nat} (hi:i<=c.V.length):64+i*(k+1)<=64+c.V.length*(k+1):=by
 have:=Nat.mul_le_mul_right (k+1) hi
 omega
theorem qa {c:GChain} {N n k i0:Nat} {C:Nat->Bool} {π:Nat->Rat} {Q:List GRat->Option Int->Prop} (h:Ch2 c N k) (hck:∀Q:Option Int->Prop,Q none->eb c Q) (hc:Cls c N C i0) (hN:N<=255) (hn:(dY C N).length=n) (hb:bd (66+c.V.length*(k+1)) n<=cap)
  (hbal:∀K,K<n->aB (λj=>nQ c C N K j*π (clF C N j)) n=0) (hsum:aB (λj=>π (clF C N j)) n=1)
  (hU:∀y:Nat->Rat,(∀K,K<n->aB (λj=>nQ c C N K j*y j) n=0)->aB y n=0->∀j,j<n->y j=0)
  (hQ:∀l,Vr (bd (66+c.V.length*(k+1)) n) N l (λt=>if C t=true then π t else 0)->Q l none):cE c Q:=by
 unfold cE
 have hst:=h.st
 have hml:=h.ml
 have hnN:n<=N:=by rw[<-hn];exact Ab
 have h1n:1<=n:=by
  obtain⟨j,hj,_⟩:=qu hc.lt hc.me
  omega
 have hbB:66+c.V.length*(k+1)<=cap:=le_trans (xq (B:=66+c.V.length*(k+1)) (zero_le n)) hb
 refine hck _ ?_
 refine aJ (λe=>by cases e) λ_=>?_
 refine kq h.toCh hc ?_
 refine ga (λe=>absurd rfl e) λ_=>⟨by simp,?_⟩
 have e0:at' [dY C N] 0=dY C N:=rfl
 rw[e0,hn,toNat_natCast,hst]
 refine bQ (n:=n) (λi (y:Int×GMap Int)=>y.1=(i:Int)/\(∀j:Nat,j<i->eT y.2 [(clF C N j:Int)]=some (j:Int))/\∀t v:Int,eT y.2 [t]=some v->∃j:Nat,j<i/\t=(clF C N j:Int)) (λy=>y.1) 0
  (λi y h=>by rw[h.1];omega) ⟨rfl,λj hj=>absurd hj om,λt v e=>by rw[rc] at e;cases e⟩ ?_ ?_
 ·rintro i ⟨x,mp⟩ next hi ⟨hx,h1,h2⟩ hnx
  dsimp only at hx h1 h2 ⊢
  subst hx
  refine condT (λ_=>⟨om,zRg,?_⟩) (λe=>absurd e om)
  rw[(mX (C:=C) (N:=N) (j:=i) om).1]
  refine hnx _ ⟨by simp,λj hj=>?_,λt v e=>?_⟩
  ·dsimp only
   rw[dI]
   by_cases e:j=i
   ·subst e;rw[if_pos rfl]
   ·rw[if_neg λe'=>e (oQ (C:=C) (N:=N) om om om)]
    exact h1 j om
  ·dsimp only at e
   rw[dI] at e
   by_cases et:t=(clF C N i:Int)
   ·exact⟨i,om,et⟩
   ·rw[if_neg et] at e
    obtain⟨j,hj,ej⟩:=h2 t v e
    exact⟨j,om,ej⟩
 rintro⟨x,mp⟩ next ⟨hx,g1,g2⟩
 dsimp only at hx g1 g2 ⊢
 subst hx
 refine condT (λe=>absurd e om) λ_=>⟨i_ om om,?_⟩
 refine bQ (n:=n) (λi (y:Int×List (List GRat))=>y.1=(i:Int)/\y.2.length=n/\∀r:Nat,r<i->Vr 1 n (at' y.2 (r:Int)) (λ_=>0)) (λy=>y.1) 0
  (λi y h=>by rw[h.1];omega) ⟨rfl,by simp[aQ],λr hr=>absurd hr om⟩ ?_ ?_
 ·rintro i ⟨x,a⟩ next hi ⟨hx,hl,ha⟩ hnx
  dsimp only at hx hl ha ⊢
  subst hx
  refine condT (λ_=>⟨i_ om om,om,zRg,hnx _ ⟨by simp,by rw[bJ];exact hl,λr hr=>?_⟩⟩) (λe=>absurd e om)
  dsimp only
  rw[cm om]
  by_cases e:r=i
  ·rw[if_pos e];exact yA
  ·rw[if_neg e];exact ha r om
 rintro⟨x,a0⟩ next ⟨hx,hl0,ha0⟩
 dsimp only at hx hl0 ha0 ⊢
 subst hx
 refine condT (λe=>absurd e om) λ_=>?_
 refine bQ (n:=c.V.length) (λi (y:Int×List (List GRat))=>y.1=(i:Int)/\MR (64+i*(k+1)) n n y.2 (λK j=>dE (gM C N K j) (c.V.take i))) (λy=>y.1) 0
  (λi y h=>by rw[h.1];omega) ⟨rfl,hl0,λr hr=>(ha0 r hr).mono om⟩ ?_ ?_
 ·rintro i ⟨x,a⟩ next hi ⟨hx,hM⟩ hnx
  dsimp only at hx hM ⊢
  subst hx
  have hal:=hM.1
  have hi1:=aae (c:=c) (k:=k) (i:=i) om
  have hi2:=aae (c:=c) (k:=k) (i:=i+1) om
  have hi3:64+(i+1)*(k+1)=64+i*(k+1)+k+1:=by rw[Nat.succ_mul];omega
  have hmv:=h.mv i hi
  have hne:=h.ne i hi
  have hrt:=h.rt i hi
  have hmem:at' c.V (i:Int)∈c.V:=kE hi
  refine condT (λ_=>⟨om,gt ?_⟩) (λe=>absurd e om)
  cases hm:eT mp [(at' c.V (i:Int)).D] with
  | none=>
   refine aJ (λ_=>⟨zRg,hnx _ ⟨by simp,(hM.mono om).congr λK j hK hj=>?_⟩⟩) (λe=>by cases e)
   rw[pi hi]
   have hnf:(at' c.V (i:Int)).D≠(clF C N j:Int):=λe=>by
    rw[e,g1 j hj] at hm;cases hm
   unfold gM
   rw[if_neg λe=>hnf e.1,if_neg λe=>hnf e.1]
   grind
  | some v=>
   obtain⟨jf,hjf,ejf⟩:=g2 _ _ hm
   have hv:v=(jf:Int):=by
    have:=g1 jf hjf
    rw[<-ejf,hm] at this
    injection this
   subst hv
   have hcf:=mX (C:=C) (N:=N) (j:=jf) om
   obtain⟨t,ht⟩:∃t:Nat,(at' c.V (i:Int)).To=(t:Int):=⟨(at' c.V (i:Int)).To.toNat,om⟩
   have htC:C t=true:=hc.cl _ t hcf.2.1 hcf.2.2 (.step .refl ⟨_,hmem,ejf,ht⟩)
   obtain⟨jt,hjt,ejt⟩:=qu (C:=C) (N:=N) (t:=t) om htC
   rw[hn] at hjt
   have et:(at' c.V (i:Int)).To=(clF C N jt:Int):=by rw[ht,ejt]
   have hmt:eT mp [(at' c.V (i:Int)).To]=some (jt:Int):=by rw[et];exact g1 jt hjt
   have hjj:jt≠jf:=λe=>hne (by rw[ejf,et,e])
   rw[hmt]
   refine aJ (λe=>by cases e) λ_=>gt ?_
   have r1:=hM.2 jf hjf
   have r2:=hM.2 jt hjt
   have rl1:=r1.1
   have rl2:=r2.1
   simp only[Option.getD_some]
   refine⟨om,om,om,?_⟩
   refine xJ (r1.2 jf hjf) hrt om λhr=>?_
   have hA:=hM.set hjf (r1.set hjf hr om) (B':=64+i*(k+1)+k+1) om
   have eA:at' (aN a (jf:Int) (aN (at' a (jf:Int)) (jf:Int) (ay (dE (gM C N jf jf) (c.V.take i)-aF (at' c.V (i:Int)).X)))) (jt:Int)=at' a (jt:Int):=by
    rw[cm om,if_neg hjj]
   rw[eA]
   refine⟨om,om,om,om,?_⟩
   refine oU (r2.2 jf hjf) hrt om λhr2=>⟨om,zRg,hnx _ ⟨by simp,?_⟩⟩
   have hB:=hA.set hjt (r2.set hjf hr2 om) (B':=64+i*(k+1)+k+1) (le_refl _)
   dsimp only
   rw[hi3]
   refine hB.congr λK j hK hj=>?_
   rw[pi hi,YL hn hj hK hjf hjt ejf et]
   by_cases e1:K=jt
   ·subst e1
    rw[if_pos rfl,if_neg hjj]
    dsimp only
    by_cases e2:j=jf
    ·subst e2;rw[if_pos rfl,if_pos rfl,if_pos rfl];grind
    ·rw[if_neg e2,if_neg e2];grind
   ·rw[if_neg e1,if_neg e1]
    by_cases e3:K=jf
    ·subst e3
     rw[if_pos rfl,if_pos rfl]
     dsimp only
     by_cases e2:j=K
     ·subst e2;rw[if_pos rfl,if_pos rfl];grind
     ·rw[if_neg e2,if_neg e2];grind
    ·rw[if_neg e3,if_neg e3]
     by_cases e2:j=jf
     ·rw[if_pos e2];grind
     ·rw[if_neg e2];grind
 rintro⟨x,a⟩ next ⟨hx,hM⟩
 dsimp only at hx hM ⊢
 subst hx
 rw[take_length] at hM
 have hal:=hM.1
 have eM:MR (64+c.V.length*(k+1)) n n a (nQ c C N):=hM
 have e1:(n:Int)-1=((n-1:Nat):Int):=om
 have hl1:=(hM.2 (n-1) om).1
 refine condT (λe=>absurd e om) λ_=>⟨i_ om om,zRg,?_⟩
 rw[e1]
 refine RR zRg λhone=>⟨om,zRg,om,?_⟩
 refine bQ (n:=n) (λi (y:Int×List (List GRat))=>y.1=(i:Int)/\MR (64+c.V.length*(k+1)) n n y.2 (λK j=>if K=n-1/\j<i then 1 else nQ c C N K j)) (λy=>y.1) 0
  (λi y h=>by rw[h.1];omega) ⟨rfl,eM.congr λK j _ _=>by rw[if_neg om]⟩ ?_ ?_
 ·rintro i ⟨x,b⟩ next hi ⟨hx,hB⟩ hnx
  dsimp only at hx hB ⊢
  subst hx
  have hbl:=hB.1
  have hb1:=hB.2 (n-1) om
  have hbl1:=hb1.1
  refine condT (λ_=>⟨zRg,om,?_⟩) (λe=>absurd e om)
  refine F7 zRg λho=>⟨om,zRg,hnx _ ⟨by simp,?_⟩⟩
  dsimp only
  refine(hB.set om (hb1.set hi (ho.mono om) (le_refl _)) (le_refl _)).congr λK j hK hj=>?_
  by_cases e2:K=n-1
  ·subst e2
   rw[if_pos rfl]
   dsimp only
   by_cases e3:j=i
   ·subst e3;rw[if_pos rfl,if_pos ⟨rfl,om⟩];rfl
   ·rw[if_neg e3]
    by_cases e4:j<i
    ·rw[if_pos ⟨rfl,e4⟩,if_pos ⟨rfl,om⟩]
    ·rw[if_neg (λe=>e4 e.2),if_neg om]
  ·rw[if_neg e2,if_neg (λe=>e2 e.1),if_neg (λe=>e2 e.1)]
 rintro⟨x,b⟩ next ⟨hx,hB⟩
 dsimp only at hx hB ⊢
 subst hx
 refine condT (λe=>absurd e om) λ_=>?_
 have hB2:MR (64+c.V.length*(k+1)) n n b (λK j=>if K=n-1 then 1 else nQ c C N K j):=hB.congr λK j _ hj=>by
  by_cases e2:K=n-1
  ·rw[if_pos ⟨e2,hj⟩,if_pos e2]
  ·rw[if_neg (λe=>e2 e.1),if_neg e2]
 have hone':((1:Int):Rat)=1:=rfl
 rw[hone'] at hone ⊢
 have hw:=((yA (m:=n)).set (j:=n-1) om hone om).mono (C:=64+c.V.length*(k+1)) om
 refine oM (x:=λj=>π (clF C N j)) hB2 hw h1n om om (by rw[show 64+c.V.length*(k+1)+2=66+c.V.length*(k+1) by omega];exact hb) (λi hi=>?_) (λy hy=>?_) λl hl=>?_
 ·by_cases e2:i=n-1
  ·subst e2
   rw[if_pos rfl]
   refine Eq.trans (aX _ λj _=>?_) hsum
   rw[if_pos rfl,Rat.one_mul]
  ·rw[if_neg e2,<-hbal i hi]
   exact aX _ λj _=>by rw[if_neg e2]
 ·have hrow:∀K,K<n->K≠n-1->aB (λj=>nQ c C N K j*y j) n=0:=λK hK e2=>by
   rw[<-hy K hK]
   exact aX _ λj _=>by rw[if_neg e2]
  have hs:aB y n=0:=by
   rw[<-hy (n-1) om]
   exact aX _ λj _=>by rw[if_pos rfl,Rat.one_mul]
  refine hU y (λK hK=>?_) hs
  by_cases e2:K=n-1
  ·have hz:aB (λK=>aB (λj=>nQ c C N K j*y j) n) n=0:=by
    rw[p']
    refine e_ _ λj hj=>?_
    rw[kG]
    have:=GN h hc (j:=j) om
    rw[hn] at this
    rw[this,Rat.zero_mul]
   obtain⟨m,rfl⟩:∃m,n=m+1:=⟨n-1,om⟩
   rw[aB,e_ m λK hK=>hrow K om om,Rat.zero_add] at hz
   rw[show K=m by omega]
   exact hz
  ·exact hrow K hK e2
 rw[show 64+c.V.length*(k+1)+2=66+c.V.length*(k+1) by omega] at hl
 refine aJ (λe=>by cases e) λ_=>⟨i_ om om,?_⟩
 have hll:=hl.1
 refine bQ (n:=n) (λi (y:Int×List GRat)=>y.1=(i:Int)/\y.2.length=N/\(∀j:Nat,j<i->at' y.2 (clF C N j:Int)=at' l (j:Int))/\∀t:Nat,t<N->¬C t=true->at' y.2 (t:Int)=(⟨false,[],[]⟩:GRat)) (λy=>y.1) 0
  (λi y h=>by rw[h.1];omega) ⟨rfl,by simp[aQ],λj hj=>absurd hj om,λt ht _=>by simp[aQ,at',List.getD_eq_getElem?_getD,ht]⟩ ?_ ?_
 ·rintro i ⟨x,out⟩ next hi ⟨hx,ho,h1,h2⟩ hnx
  dsimp only at hx ho h1 h2 ⊢
  subst hx
  have hci:=mX (C:=C) (N:=N) (j:=i) om
  rw[hci.1]
  refine condT (λ_=>⟨om,om,om,zRg,hnx _ ⟨by simp,by rw[bJ];exact ho,λj hj=>?_,λt ht hC=>?_⟩⟩) (λe=>absurd e om)
  ·dsimp only
   rw[cm om]
   by_cases e:j=i
   ·subst e;rw[if_pos rfl]
   ·rw[if_neg λe'=>e (oQ (C:=C) (N:=N) om om e')]
    exact h1 j om
  ·dsimp only
   rw[cm om,if_neg λe=>hC (by rw[e];exact hci.2.2)]
   exact h2 t ht hC
 rintro⟨x,out⟩ next ⟨hx,ho,h1,h2⟩
 dsimp only at hx ho h1 h2 ⊢
 subst hx
 refine condT (λe=>absurd e om) λ_=>hQ out ⟨ho,λt ht=>?_⟩
 dsimp only
 by_cases hC:C t=true
 ·rw[if_pos hC]
  obtain⟨j,hj,ej⟩:=qu (C:=C) (N:=N) ht hC
  have:=hl.2 j om
  rw[<-h1 j om] at this
  rw[<-ej]
  exact this
 ·rw[if_neg hC,h2 t ht hC]
  exact .zero (le_trans (show 1<=66+c.V.length*(k+1) by omega) (xq (B:=66+c.V.length*(k+1)) (zero_le n))) hb
theorem GY {h:Nat->Rat}:∀n,1<=n->∃m,m<n/\∀j,j<n->h j<=h m
 | 0,e=>absurd e om
 | n+1,_=>by
  rcases Nat.eq_zero_or_pos n with e | e
  ·subst e
   exact⟨0,om,λj hj=>by rw[show j=0 by omega];exact Rat.le_refl⟩
  ·obtain⟨m,hm,ha⟩:=GY (h:=h) n e
   rcases Rat.le_total (a:=h n) (b:=h m) with hl | hl
   ·refine⟨m,om,λj hj=>?_⟩
    rcases lt_or_ge j n with h1 | h1
    ·exact ha j h1
    ·rw[show j=n by omega];exact hl
   ·refine⟨n,om,λj hj=>?_⟩
    rcases lt_or_ge j n with h1 | h1
    ·exact Rat.le_trans (ha j h1) hl
    ·rw[show j=n by omega];exact Rat.le_refl
theorem yW {f:Nat->Rat}:∀n,(∀i,i<n->f i<=0)->aB f n<=0
 | 0,_=>Rat.le_refl
 | n+1,h=>by
  have h1:=yW n λi hi=>h i om
  have h2:=h n om
  rw[aB]
  grind
theorem wL {f:Nat->Rat}:∀n,(∀i,i<n->f i<=0)->aB f n=0->∀i,i<n->f i=0
 | 0,_,_,i,hi=>absurd hi om
 | n+1,h,hs,i,hi=>by
  have h1:=yW n λi hi=>h i om
  have h2:=h n om
  rw[aB] at hs
  rcases lt_or_ge i n with hl | hl
  ·exact wL n (λi hi=>h i om) (by grind) i hl
  ·rw[show i=n by omega];grind
theorem yb {g:GMove->Rat}:∀ {l:List GMove},(∀m∈l,0<=g m)->0<=dE g l
 | [],_=>Rat.le_refl
 | a :: l,h=>by
  have h1:=yb (l:=l) λm hm=>h m (by simp[hm])
  have h2:=h a zSm
  rw[dE]
  grind
theorem zF {g:GMove->Rat} {m:GMove}:∀ {l:List GMove},(∀m∈l,0<=g m)->m∈l->0<g m->0<dE g l
 | [],_,hm,_=>by cases hm
 | a :: l,h,hm,hp=>by
  have h1:=yb (l:=l) λm hm=>h m (by simp[hm])
  have h2:=h a zSm
  rw[dE]
  rcases List.mem_cons.1 hm with e | e
  ·subst e;grind
  ·have:=zF (l:=l) (λm hm=>h m (by simp[hm])) e hp
   grind
theorem tg {c:GChain} {N n i0:Nat} {C:Nat->Bool} {π y:Nat->Rat} (hc:Cls c N C i0) (hn:(dY C N).length=n) (hmv:∀m∈c.V,0<=m.D/\m.D<N) (hr:∀m∈c.V,0<aF m.X)
  (hp:∀j,j<n->0<π (clF C N j)) (hbal:∀K,K<n->aB (λj=>nQ c C N K j*π (clF C N j)) n=0) (hsum:aB (λj=>π (clF C N j)) n=1)
  (hy:∀K,K<n->aB (λj=>nQ c C N K j*y j) n=0) (hs:aB y n=0):∀j,j<n->y j=0:=by
 have h1n:1<=n:=by
  obtain⟨j,hj,_⟩:=qu hc.lt hc.me
  omega
 have hne:∀j,j<n->π (clF C N j)≠0:=λj hj e=>by have:=hp j hj;grind
 obtain⟨jm,hjm,hmax⟩:=GY (h:=λj=>y j / π (clF C N j)) n h1n
 obtain⟨M,hM⟩:∃M,M=y jm / π (clF C N jm):=⟨_,rfl⟩
 rw[<-hM] at hmax
 have hyh:∀j,j<n->y j=y j / π (clF C N j)*π (clF C N j):=λj hj=>(Rat.div_mul_cancel (hne j hj)).symm
 have hback:∀K,K<n->y K / π (clF C N K)=M->∀j,j<n->MvS c (clF C N j) (clF C N K)->y j / π (clF C N j)=M:=λK hK hKM j hj hmov=>by
  by_cases ejK:j=K
  ·rw[ejK];exact hKM
  have hoff:∀i,i<n->i≠K->∀m∈c.V,0<=gM C N K i m:=λi hi e m hm=>by
   have:=hr m hm
   unfold gM
   rw[if_neg (λe':_/\K=i=>e e'.2.symm)]
   split<;>grind
  have hz:aB (λi=>nQ c C N K i*(π (clF C N i)*(y i / π (clF C N i)-M))) n=0:=by
   have e1:=hy K hK
   have e2:=hbal K hK
   have e3:aB (λi=>nQ c C N K i*(π (clF C N i)*(y i / π (clF C N i)-M))) n=aB (λj=>nQ c C N K j*y j) n-M*aB (λj=>nQ c C N K j*π (clF C N j)) n:=by
    rw[<-rL]
    refine aX _ λi hi=>?_
    have:=hyh i hi
    generalize y i / π (clF C N i)=q at *
    rw[this]
    grind
   rw[e3,e1,e2,Rat.mul_zero]
   exact gf.2 rfl
  have hterm:=wL n (λi hi=>?_) hz j hj
  ·obtain⟨m,hm,hf,ht⟩:=hmov
   have hpos:0<nQ c C N K j:=zF (m:=m) (hoff j hj ejK) hm (by
    unfold gM
    rw[if_pos ⟨hf,ht⟩,if_neg (λe':_/\K=j=>ejK e'.2.symm)]
    have:=hr m hm
    grind)
   rcases Rat.mul_eq_zero.1 hterm with e | e
   ·grind
   ·rcases Rat.mul_eq_zero.1 e with e | e
    ·exact absurd e (hne j hj)
    ·exact gf.1 e
  ·by_cases e:i=K
   ·rw[e,hKM,gf.2 rfl,Rat.mul_zero,Rat.mul_zero];exact Rat.le_refl
   ·have h1:0<=nQ c C N K i:=yb (hoff i hi e)
    have h2:=hp i hi
    have h3:=hmax i hi
    have h4:0<=M-y i / π (clF C N i):=(Rat.le_iff_sub_nonneg _ _).1 h3
    have h5:=Rat.mul_nonneg h1 (Rat.mul_nonneg (Rat.le_of_lt h2) h4)
    generalize y i / π (clF C N i)=q at *
    grind
 have hall:∀s u,Rch c s u->s<N->C s=true->∀K,K<n->clF C N K=u->y K / π (clF C N K)=M->∀j,j<n->clF C N j=s->y j / π (clF C N j)=M:=λs u hr=>by
  induction hr with
  | refl=>
   intro _ _ K hK eK hKM j hj ej
   have:=oQ (C:=C) (N:=N) (i:=j) (j:=K) om om om
   rw[this];exact hKM
  | @step t u hst hmu ih=>
   intro hs hC K hK eK hKM j hj ej
   have htC:C t=true:=hc.cl s t hs hC hst
   have htN:t<N:=by
    obtain⟨m,hm,hf,_⟩:=hmu
    have:=hmv m hm
    omega
   obtain⟨jt,hjt,ejt⟩:=qu (C:=C) (N:=N) htN htC
   have:=hback K hK hKM jt om (by rw[ejt,eK];exact hmu)
   exact ih hs hC jt om ejt this j hj ej
 have hfin:∀j,j<n->y j=M*π (clF C N j):=λj hj=>by
  have h1:=mX (C:=C) (N:=N) (j:=j) om
  have h2:=mX (C:=C) (N:=N) (j:=jm) om
  have:=hall _ _ ((hc.all _ h1.2.1).trans (hc.bk _ h2.2.1 h2.2.2)) h1.2.1 h1.2.2 jm hjm rfl hM.symm j hj rfl
  rw[<-this]
  exact hyh j hj
 have hM0:M=0:=by
  have e:aB y n=aB (λj=>π (clF C N j)*M) n:=aX _ λj hj=>by rw[hfin j hj,Rat.mul_comm]
  rw[kG,hsum,hs,Rat.one_mul] at e
  exact e.symm
 intro j hj
 rw[hfin j hj,hM0,Rat.zero_mul]
theorem vt {g h:GMove->Rat}:∀ {l:List GMove},(∀m∈l,g m=h m)->dE g l=dE h l
 | [],_=>rfl
 | a :: l,e=>by rw[dE,dE,e a zSm,vt (l:=l) λm hm=>e m (by simp[hm])]
def psC (u:Nat->Rat) (n:Nat) (t:Nat):Bool:=decide (pr u n t≠0)
theorem NH {u:Nat->Rat} {t:Nat}:∀n,pr u n t≠0↔∀i,i<n->(if t / 2^i % 2=0 then 1-u i else u i)≠0
 | 0=>⟨λ_ i hi=>absurd hi om,λ_=>by rw[pr];decide +kernel⟩
 | n+1=>by
  rw[pr]
  have ih:=NH (u:=u) (t:=t) n
  constructor
  ·intro h i hi
   rcases lt_or_ge i n with h1 | h1
   ·exact ih.1 (λe=>h (by rw[e,Rat.zero_mul])) i h1
   ·rw[show i=n by omega];exact λe=>h (by rw[e,Rat.mul_zero])
  ·intro h e
   rcases Rat.mul_eq_zero.1 e with e | e
   ·exact ih.2 (λi hi=>h i om) e
   ·exact h n om e
theorem GK {f r:List GRat} {s n i:Nat} (hb:s / 2^i % 2=1) (hg:iG f r s i=true) (hi:i<n):∀k,k<=n->n-k<=i->itm f r s i∈dnP f r s n k
 | 0,_,h=>absurd h om
 | k+1,hk,h=>by
  rw[dnP,mem_append]
  rcases lt_or_ge i (n-k) with h1 | h1
  ·refine Or.inr ?_
   have e:n-1-k=i:=om
   rw[e,if_pos ⟨hb,hg⟩];simp
  ·exact Or.inl (GK hb hg hi k om h1)
theorem Fk {f r:List GRat} {s i:Nat} (hb:s / 2^i % 2=0) (hg:iG f r s i=true):∀k,i<k->itm f r s i∈up f r s k
 | 0,h=>absurd h om
 | k+1,h=>by
  rw[up,mem_append]
  rcases lt_or_ge i k with h1 | h1
  ·exact Or.inl (Fk hb hg k h1)
  ·refine Or.inr ?_
   have e:k=i:=om
   rw[e,if_pos ⟨hb,hg⟩];simp
theorem B4 {f r:List GRat} {s n i:Nat} (hg:iG f r s i=true) (hi:i<n):∀S,s<S->itm f r s i∈mvs f r n S
 | 0,h=>absurd h om
 | S+1,h=>by
  rw[mvs,mem_append,mem_append]
  rcases lt_or_ge s S with h1 | h1
  ·exact Or.inl (B4 hg hi S h1)
  ·have e:S=s:=om
   subst e
   rcases pS S i with hb | hb
   ·exact Or.inr (Or.inl (GK hb hg hi n (le_refl n) om))
   ·exact Or.inr (Or.inr (Fk hb hg n hi))
def mC (s t k:Nat):Nat:=s / 2^k*2^k+t % 2^k
theorem C9 {s t k:Nat}:(s / 2^k % 2=t / 2^k % 2->mC s t (k+1)=mC s t k)/\(s / 2^k % 2≠t / 2^k % 2->mC s t (k+1)=flp (mC s t k) k)/\mC s t k / 2^k % 2=s / 2^k % 2:=by
 have hp:0<2^k:=pow_pos om
 have h1:s / 2^(k+1)=s / 2^k / 2:=by rw[pow_succ,Nat.div_div_eq_div_mul]
 have h2:t % 2^(k+1)=t % 2^k+2^k*(t / 2^k % 2):=by rw[pow_succ,Nat.mod_mul]
 have h3:mC s t k / 2^k=s / 2^k:=by
  unfold mC
  rw[Nat.add_comm,Nat.add_mul_div_right _ _ hp,div_eq_of_lt (Nat.mod_lt t hp),Nat.zero_add]
 have h4:mC s t (k+1)=s / 2^k / 2*2*2^k+t % 2^k+2^k*(t / 2^k % 2):=by
  unfold mC
  rw[h1,h2,pow_succ,Nat.mul_comm (2^k) 2,<-Nat.mul_assoc,Nat.add_assoc]
 have h5:mC s t k=s / 2^k / 2*2*2^k+(s / 2^k % 2)*2^k+t % 2^k:=by
  unfold mC
  rw[<-add_mul]
  have:=Nat.div_add_mod (s / 2^k) 2
  rw[show s / 2^k / 2*2+s / 2^k % 2=s / 2^k by omega]
 refine⟨λe=>?_,λe=>?_,by rw[h3]⟩
 ·rw[h4,h5,e,Nat.mul_comm (2^k)];omega
 ·have hm:mC s t k / 2^k % 2=s / 2^k % 2:=by rw[h3]
  rcases pS s k with hs | hs<;>rcases pS t k with ht | ht
  ·omega
  ·have:=mV (s:=mC s t k) (i:=k) om
   rw[h4,ht]
   rw[h5,hs] at this
   rw[h5,hs]
   omega
  ·rw[qn om,h4,h5,hs,ht];omega
  ·omega
theorem H2 {s t k n:Nat} (hs:s<2^n) (ht:t<2^n) (hk:k<=n):mC s t k<2^n:=by
 unfold mC
 have hp:0<2^k:=pow_pos om
 have e:2^n=2^(n-k)*2^k:=by rw[<-pow_add];congr 1;omega
 have h1:s / 2^k<2^(n-k):=by rw[Nat.div_lt_iff_lt_mul hp,<-e];exact hs
 have h2:=Nat.mod_lt t hp
 have h3:(s / 2^k+1)*2^k<=2^(n-k)*2^k:=Nat.mul_le_mul_right _ h1
 rw[add_mul] at h3
 rw[e];omega
section
variable {f r:List GRat} {n:Nat}
structure Pq (f r:List GRat) (n:Nat):Prop where
 n8:n<=8
 nn:∀i:Nat,i<n->0<=aF (at' f (i:Int))/\0<=aF (at' r (i:Int))
 ne:∀i:Nat,i<n->aF (at' f (i:Int))+aF (at' r (i:Int))≠0
theorem Pq.u {i:Nat} (h:Pq f r n) (hi:i<n):(ba f r i≠0↔0<aF (at' f (i:Int)))/\(1-ba f r i≠0↔0<aF (at' r (i:Int))):=by
 have hne:=h.ne i hi
 have hnn:=h.nn i hi
 have e:ba f r i*(aF (at' f (i:Int))+aF (at' r (i:Int)))=aF (at' f (i:Int)):=Rat.div_mul_cancel hne
 have e2:(1-ba f r i)*(aF (at' f (i:Int))+aF (at' r (i:Int)))=aF (at' r (i:Int)):=by grind
 constructor
 ·constructor
  ·intro h1
   rcases Rat.le_iff_lt_or_eq.1 hnn.1 with h2 | h2
   ·exact h2
   ·rw[<-h2] at e
    rcases Rat.mul_eq_zero.1 e with h3 | h3
    ·exact absurd h3 h1
    ·rw[<-h2] at hne;exact absurd h3 hne
  ·intro h1 h2
   rw[h2,Rat.zero_mul] at e
   rw[<-e] at h1;exact absurd h1 (by decide +kernel)
 ·constructor
  ·intro h1
   rcases Rat.le_iff_lt_or_eq.1 hnn.2 with h2 | h2
   ·exact h2
   ·rw[<-h2] at e2
    rcases Rat.mul_eq_zero.1 e2 with h3 | h3
    ·exact absurd h3 h1
    ·rw[<-h2] at hne;exact absurd h3 hne
  ·intro h1 h2
   rw[h2,Rat.zero_mul] at e2
   rw[<-e2] at h1;exact absurd h1 (by decide +kernel)
theorem xW {t:Nat} (h:Pq f r n):psC (ba f r) n t=true↔∀i,i<n->(t / 2^i % 2=1->0<aF (at' f (i:Int)))/\(t / 2^i % 2=0->0<aF (at' r (i:Int))):=by
 unfold psC
 rw[decide_eq_true_iff,NH]
 refine forall_congr' λi=>forall_congr' λhi=>?_
 have hu:=h.u hi
 rcases pS t i with hb | hb
 ·rw[if_neg om,hu.1]
  exact⟨λh=>⟨λ_=>h,λe=>om⟩,λh=>h.1 hb⟩
 ·rw[if_pos hb,hu.2]
  exact⟨λh=>⟨λe=>om,λ_=>h⟩,λh=>h.2 hb⟩
theorem ly {s i:Nat}:iG f r s i=true↔0<aF (cM f r s i):=by
 unfold iG
 rw[decide_eq_true_iff]
 exact⟨λh=>Rat.not_le.1 λh2=>by have:=sL.2 h2;omega,λh=>by
  rcases Int.lt_or_le 0 (gi (aF (cM f r s i))) with h1 | h1
  ·exact h1
  ·exact absurd h (Rat.not_lt.2 (sL.1 h1))⟩
theorem B6 {c:GChain} {s t:Nat} (h:Pq f r n) (hm:c.V=mvs f r n (2^n)) (hs:s<2^n) (ht:t<2^n) (hC:psC (ba f r) n t=true):∀k,k<=n->Rch c s (mC s t k)
 | 0,_=>by
  have:mC s t 0=s:=by simp[mC,Nat.mod_one]
  rw[this];exact .refl
 | k+1,hk=>by
  have ih:=B6 h hm hs ht hC k om
  obtain⟨m1,m2,m3⟩:=C9 (s:=s) (t:=t) (k:=k)
  by_cases e:s / 2^k % 2=t / 2^k % 2
  ·rw[m1 e];exact ih
  ·refine .step ih ⟨itm f r (mC s t k) k,?_,rfl,by rw[m2 e];rfl⟩
   rw[hm]
   refine B4 ?_ om _ (H2 hs ht om)
   rw[ly]
   have hq:=(xW h).1 hC k om
   unfold cM
   rcases pS s k with hb | hb
   ·rw[if_pos om];exact hq.2 om
   ·rw[if_neg om];exact hq.1 om
theorem Cu {c:GChain} {s t:Nat} (h:Pq f r n) (hm:c.V=mvs f r n (2^n)) (hs:s<2^n) (ht:t<2^n) (hC:psC (ba f r) n t=true):Rch c s t:=by
 have:=B6 h hm hs ht hC n (le_refl n)
 have e:mC s t n=t:=by
  unfold mC
  rw[div_eq_of_lt hs,Nat.zero_mul,Nat.zero_add,Nat.mod_eq_of_lt ht]
 rw[e] at this;exact this
theorem Sa {s i:Nat} (h:Pq f r n) (hs:s<2^n) (hi:i<n) (hg:iG f r s i=true) (hC:psC (ba f r) n s=true):psC (ba f r) n (flp s i)=true:=by
 have h8:=h.n8
 have h256:s<256:=lt_of_lt_of_le hs (gn h8)
 rw[xW h]
 intro j hj
 have hq:=(xW h).1 hC j hj
 by_cases e:j=i
 ·subst e
  have hf:=nJ s h256 j om
  rw[ly] at hg
  unfold cM at hg
  rcases pS s j with hb | hb
  ·rw[if_pos hb] at hg
   have:=hf.2.2 hb
   exact⟨λe=>om,λ_=>hg⟩
  ·rw[if_neg om] at hg
   have:=hf.2.1 hb
   exact⟨λ_=>hg,λe=>om⟩
 ·rw[qo s h256 i om j om e];exact hq
theorem Xp {c:GChain} {s t:Nat} (h:Pq f r n) (hm:c.V=mvs f r n (2^n)) (hs:s<2^n) (hC:psC (ba f r) n s=true) (hr:Rch c s t):t<2^n/\psC (ba f r) n t=true:=by
 induction hr with
 | refl=>exact⟨hs,hC⟩
 | @step t u _ hmv ih=>
  obtain⟨m,hmm,hf,ht⟩:=hmv
  rw[hm] at hmm
  obtain⟨a,i,ha,hi,rfl,hg⟩:=kB _ _ hmm
  have e1:a=t:=Int.ofNat.inj hf
  have e2:flp a i=u:=Int.ofNat.inj ht
  subst e1
  rw[<-e2]
  exact⟨vJ ha hi,Sa h ih.1 hi hg ih.2⟩
theorem zG {p:Nat->Bool}:∀k,(∃t,t<k/\p t=true)->∃i,i<k/\p i=true/\∀t,p t=true->i<=t
 | 0,⟨t,h,_⟩=>absurd h om
 | k+1,⟨t,h,hp⟩=>by
  by_cases e:∃t,t<k/\p t=true
  ·obtain⟨i,hi,h1,h2⟩:=zG k e
   exact⟨i,om,h1,h2⟩
  ·have e1:t=k:=by
    rcases lt_or_ge t k with h1 | h1
    ·exact absurd ⟨t,h1,hp⟩ e
    ·omega
   refine⟨k,om,e1▸hp,λt' h'=>?_⟩
   rcases lt_or_ge t' k with h1 | h1
   ·exact absurd ⟨t',h1,h'⟩ e
   ·exact h1
theorem FT {c:GChain} (h:Pq f r n) (hm:c.V=mvs f r n (2^n)):∃i0,Cls c (2^n) (psC (ba f r) n) i0:=by
 have hex:∃t,t<2^n/\psC (ba f r) n t=true:=by
  refine Classical.byContradiction λhno=>?_
  have h1:=oY (u:=ba f r) n
  rw[e_ (2^n) λt ht=>Classical.byContradiction λe=>hno ⟨t,ht,decide_eq_true e⟩] at h1
  exact absurd h1 (by decide +kernel)
 obtain⟨i,hi,h1,h2⟩:=zG _ hex
 exact⟨i,hi,h1,λs hs=>Cu h hm hs hi h1,λs t hs hC hr=>(Xp h hm hs hC hr).2,λt ht hC=>Cu h hm hi ht hC,λt _ hC=>h2 t hC⟩
theorem Cn {C:Nat->Bool} {g:Nat->Rat}:∀N,(∀t,t<N->¬C t=true->g t=0)->aB (λj=>g (clF C N j)) (dY C N).length=aB g N
 | 0,_=>rfl
 | N+1,h=>by
  have ih:=Cn (C:=C) (g:=g) N λt ht=>h t om
  rw[aB,<-ih]
  have hpre:∀j,j<(dY C N).length->clF C (N+1) j=clF C N j:=λj hj=>by
   unfold clF
   rw[kL]
   split
   ·rw[fD om om]
   ·rfl
  by_cases hC:C N=true
  ·have el:(dY C (N+1)).length=(dY C N).length+1:=by rw[kL,if_pos hC];simp
   have elast:clF C (N+1) (dY C N).length=N:=by
    unfold clF
    rw[kL,if_pos hC,gA];simp
   rw[el,aB,elast]
   congr 1
   exact aX _ λj hj=>by rw[hpre j hj]
  ·have el:(dY C (N+1)).length=(dY C N).length:=by rw[kL,if_neg hC]
   rw[el,h N om hC,Rat.add_zero]
   exact aX _ λj hj=>by rw[hpre j hj]
theorem FW {u:Nat->Rat}:∀n,(∀i,i<n->0<=u i/\u i<=1)->∀x,0<=pr u n x
 | 0,_,_=>by rw[pr];decide +kernel
 | n+1,h,x=>by
  rw[pr]
  refine Rat.mul_nonneg (FW n (λi hi=>h i om) x) ?_
  have hn:=h n om
  split
  ·exact(Rat.le_iff_sub_nonneg _ _).1 hn.2
  ·exact hn.1
theorem Pq.u01 {i:Nat} (h:Pq f r n) (hi:i<n):0<=ba f r i/\ba f r i<=1:=by
 have hne:=h.ne i hi
 obtain⟨h1,h2⟩:=h.nn i hi
 have e:ba f r i*(aF (at' f (i:Int))+aF (at' r (i:Int)))=aF (at' f (i:Int)):=Rat.div_mul_cancel hne
 have hpos:0<aF (at' f (i:Int))+aF (at' r (i:Int)):=by
  rcases Rat.le_iff_lt_or_eq.1 (Rat.add_nonneg h1 h2) with h | h
  ·exact h
  ·exact absurd h.symm hne
 have hinv:=Rat.le_of_lt (Rat.inv_pos.2 hpos)
 constructor
 ·show 0<=aF (at' f (i:Int)) / _
  rw[Rat.div_def];exact Rat.mul_nonneg h1 hinv
 ·show aF (at' f (i:Int)) / (aF (at' f (i:Int))+aF (at' r (i:Int)))<=1
  have h3:aF (at' f (i:Int))<=aF (at' f (i:Int))+aF (at' r (i:Int)):=by grind
  have h4:=Rat.mul_le_mul_of_nonneg_right h3 hinv
  rw[Rat.mul_inv_cancel _ hne] at h4
  rw[Rat.div_def];exact h4
theorem RH {c:GChain} (h:Pq f r n) (hm:c.V=mvs f r n (2^n)) {K:Nat} (hK:K<(dY (psC (ba f r) n) (2^n)).length):aB (λj=>nQ c (psC (ba f r) n) (2^n) K j*pr (ba f r) n (clF (psC (ba f r) n) (2^n) j)) (dY (psC (ba f r) n) (2^n)).length=0:=by
 have hz:∀s,s<2^n->∀i,i<n->iG f r s i=false->aF (cM f r s i)=0:=λs _ i hi hg=>by
  have h3:¬0<aF (cM f r s i):=λh3=>by rw[ly.2 h3] at hg;cases hg
  have h5:0<=aF (cM f r s i):=by
   unfold cM
   split
   ·exact(h.nn i hi).2
   ·exact(h.nn i hi).1
  exact Rat.le_antisymm (Rat.not_lt.1 h3) h5
 have hKc:=mX hK
 rw[<-zy h.n8 hKc.2.1 h.ne hz]
 unfold nQ
 rw[hm]
 have e1:∀j,dE (gM (psC (ba f r) n) (2^n) K j) (mvs f r n (2^n))*pr (ba f r) n (clF (psC (ba f r) n) (2^n) j)=dE (λm=>gM (psC (ba f r) n) (2^n) K j m*pr (ba f r) n (clF (psC (ba f r) n) (2^n) j)) (mvs f r n (2^n)):=λj=>xc _
 simp only[e1]
 rw[pZ]
 refine vt λm hmm=>?_
 obtain⟨s,i,hs,hi,rfl,hg⟩:=kB _ _ hmm
 have hfl:=vJ hs hi
 unfold ct wt
 have e3:toNat (itm f r s i).D=s:=toNat_natCast s
 rw[e3]
 by_cases hC:psC (ba f r) n s=true
 ·obtain⟨js,hjs,ejs⟩:=qu (C:=psC (ba f r) n) (N:=2^n) hs hC
  have e4:aB (λj=>gM (psC (ba f r) n) (2^n) K j (itm f r s i)*pr (ba f r) n (clF (psC (ba f r) n) (2^n) j)) (dY (psC (ba f r) n) (2^n)).length
    = aB (λj=>if j=js then ((if (itm f r s i).To=(clF (psC (ba f r) n) (2^n) K:Int) then pr (ba f r) n s*aF (itm f r s i).X else 0)-(if (itm f r s i).D=(clF (psC (ba f r) n) (2^n) K:Int) then pr (ba f r) n s*aF (itm f r s i).X else 0)) else 0) (dY (psC (ba f r) n) (2^n)).length:=by
   refine aX _ λj hj=>?_
   by_cases ej:j=js
   ·rw[if_pos ej,ej,ejs]
    unfold gM
    rw[ejs]
    have c1:((itm f r s i).D=(s:Int))↔True:=⟨λ_=>trivial,λ_=>rfl⟩
    have c2:(K=js)↔((itm f r s i).D=(clF (psC (ba f r) n) (2^n) K:Int)):=⟨λe=>by rw[e,ejs];rfl,λe=>oQ hK hjs (by rw[ejs];exact(Int.ofNat.inj e).symm)⟩
    simp only[c1,c2,true_and]
    have c3:(itm f r s i).D=(s:Int):=rfl
    by_cases d1:(itm f r s i).To=(clF (psC (ba f r) n) (2^n) K:Int)<;>by_cases d2:(itm f r s i).D=(clF (psC (ba f r) n) (2^n) K:Int)<;>simp only[d1,d2,if_true,if_false]<;>grind
   ·rw[if_neg ej]
    unfold gM
    have c1:¬(itm f r s i).D=(clF (psC (ba f r) n) (2^n) j:Int):=λe=>ej (oQ hj hjs (by rw[ejs];exact(Int.ofNat.inj e).symm))
    rw[if_neg λe=>c1 e.1,if_neg λe=>c1 e.1]
    grind
  rw[e4,eW (g:=λ_=>_) _ hjs]
 ·have hp0:pr (ba f r) n s=0:=Classical.byContradiction λe=>hC (decide_eq_true e)
  rw[hp0,Rat.zero_mul]
  have:aB (λj=>gM (psC (ba f r) n) (2^n) K j (itm f r s i)*pr (ba f r) n (clF (psC (ba f r) n) (2^n) j)) (dY (psC (ba f r) n) (2^n)).length=0:=by
   refine e_ _ λj hj=>?_
   have hcj:=mX hj
   have c1:¬(itm f r s i).D=(clF (psC (ba f r) n) (2^n) j:Int):=λe=>hC (by rw[show s=clF (psC (ba f r) n) (2^n) j from Int.ofNat.inj e];exact hcj.2.2)
   unfold gM
   rw[if_neg λe=>c1 e.1,if_neg λe=>c1 e.1]
   grind
  rw[this]
  simp only[ite_self]
  grind
end
theorem Cs {B B':Nat} (h:B<=B'):∀n,bd B n<=bd B' n
 | 0=>h
 | n+1=>by have:=Cs h n;rw[bd,bd];omega
structure PX (f r:List GRat):Prop where
 hf:Frs 10 f
 hr:Frs 10 r
 hl:f.length=r.length
 h0:0<f.length
 h4:f.length<=4
 all:∀i:Nat,i<f.length->(dq (at' f (i:Int))=true/\dq (at' r (i:Int))=true)/\aF (at' f (i:Int))+aF (at' r (i:Int))≠0
def pcC (f r:List GRat) (D:List Bool):GChain:=⟨((2^f.length:Nat):Int),0,mvs f r f.length (2^f.length),D⟩
section
variable {f r:List GRat} {D:List Bool}
theorem PX.pq (h:PX f r):Pq f r f.length:=⟨by have:=h.h4;omega,λi hi=>⟨kz (h.all i hi).1.1,kz (h.all i hi).1.2⟩,λi hi=>(h.all i hi).2⟩
theorem PX.p16 (h:PX f r):2^f.length<=16/\1<=2^f.length:=⟨le_trans (Nat.pow_le_pow_right om h.h4) (by decide),pow_pos om⟩
theorem PX.ml (h:PX f r):(mvs f r f.length (2^f.length)).length<=128:=by
 have h1:=x_ (f:=f) (r:=r) (n:=f.length) (2^f.length)
 have h4:=h.h4
 have:=Nat.mul_le_mul h.p16.1 (show f.length+f.length<=8 by omega)
 omega
theorem PX.mv (h:PX f r) (i:Nat) (hi:i<(mvs f r f.length (2^f.length)).length):(0<=(at' (mvs f r f.length (2^f.length)) (i:Int)).D/\(at' (mvs f r f.length (2^f.length)) (i:Int)).D<((2^f.length:Nat):Int))/\(0<=(at' (mvs f r f.length (2^f.length)) (i:Int)).To/\(at' (mvs f r f.length (2^f.length)) (i:Int)).To<((2^f.length:Nat):Int))/\(at' (mvs f r f.length (2^f.length)) (i:Int)).D≠(at' (mvs f r f.length (2^f.length)) (i:Int)).To/\
   Fr (at' (mvs f r f.length (2^f.length)) (i:Int)).X/\okR (at' (mvs f r f.length (2^f.length)) (i:Int)).X=true/\0<gi (aF (at' (mvs f r f.length (2^f.length)) (i:Int)).X):=yn h.hf h.hr h.hl (λi hi=>(h.all i hi).1) (le_refl (2^f.length)) i hi
theorem PX.rt (h:PX f r) {s i:Nat} (hi:i<f.length):RB 10 (aF (cM f r s i)):=by
 have hl:=h.hl
 unfold cM
 split
 ·exact(h.hr i om).2
 ·exact(h.hf i hi).2
theorem PX.prb (h:PX f r) (s:Nat):RB 133 (pr (ba f r) f.length s):=by
 have h4:=h.h4
 have hB:f.length*(3*10+3)+1<=133:=om
 exact(NK (u:=ba f r) (c:=3*10+3) (n:=f.length) om (λj hj=>xB om h.hf h.hr h.hl hj) s).mono hB
theorem PX.check (h:PX f r) (hD:D.length=2^f.length) (Q:Option Int->Prop) (hQ:Q none):eb (pcC f r D) Q:=by
 obtain⟨p1,p2⟩:=h.p16
 have hml:=h.ml
 refine pR (c:=pcC f r D) (show(1:Int)<=((2^f.length:Nat):Int) by omega) (show((2^f.length:Nat):Int)<=256 by omega) (show(D.length:Int)=((2^f.length:Nat):Int) by rw[hD]) rfl (show(mvs f r f.length (2^f.length)).length<=1000000 by omega) h.mv (B3 _) hQ
theorem PX.ch2 (h:PX f r):Ch2 (pcC f r D) (2^f.length) 10:=by
 obtain⟨p1,p2⟩:=h.p16
 have hml:=h.ml
 refine⟨⟨rfl,p2,om,show(mvs f r f.length (2^f.length)).length<=1000000 by omega,λi hi=>?_⟩,λi hi=>?_,λi hi=>?_⟩
 ·have:=h.mv i hi
  exact⟨this.1,this.2.1⟩
 ·exact(h.mv i hi).2.2.1
 ·refine .self (h.mv i hi).2.2.2.1 ?_
  obtain⟨s,i',_,hi',e,_⟩:=kB _ _ (kE hi)
  show RB 10 (aF (at' (mvs f r f.length (2^f.length)) (i:Int)).X)
  rw[e]
  exact h.rt hi'
theorem zp (h:PX f r) (hD:D.length=2^f.length) {Q:List GRat->Option Int->Prop} (hQ:∀l,Vr (bd 1474 16) (2^f.length) l (pr (ba f r) f.length)->Q l none):cE (pcC f r D) Q:=by
 obtain⟨p1,p2⟩:=h.p16
 have hml:=h.ml
 have hpq:=h.pq
 obtain⟨i0,hc⟩:=FT (c:=pcC f r D) hpq rfl
 have hb1:66+(pcC f r D).V.length*(10+1)<=1474:=by
  show 66+(mvs f r f.length (2^f.length)).length*11<=1474
  omega
 have hcl:(dY (psC (ba f r) f.length) (2^f.length)).length<=16:=le_trans Ab p1
 have hb2:bd (66+(pcC f r D).V.length*(10+1)) (dY (psC (ba f r) f.length) (2^f.length)).length<=bd 1474 16:=le_trans (Cs hb1 _) (xq hcl)
 have hbal:=λK hK=>RH (c:=pcC f r D) hpq rfl (K:=K) hK
 have hsum:aB (λj=>pr (ba f r) f.length (clF (psC (ba f r) f.length) (2^f.length) j)) (dY (psC (ba f r) f.length) (2^f.length)).length=1:=by
  rw[Cn (C:=psC (ba f r) f.length) (g:=pr (ba f r) f.length) (2^f.length) λt _ e=>Classical.byContradiction λe2=>e (decide_eq_true e2)]
  exact oY _
 refine qa (π:=pr (ba f r) f.length) h.ch2 (λQ hQ=>h.check hD Q hQ) hc om rfl (le_trans hb2 (by decide)) hbal hsum (λy hy hs=>tg hc rfl (λm hm=>?_) (λm hm=>?_) (λj hj=>?_) hbal hsum hy hs) λl hl=>hQ l ?_
 ·obtain⟨i,hi,rfl⟩:=getElem_of_mem hm
  rw[<-bX hi]
  exact(h.mv i hi).1
 ·obtain⟨s,i,_,_,rfl,hg⟩:=kB _ _ hm
  exact ly.1 hg
 ·have h1:=mX hj
  have h2:=FW f.length (λi hi=>hpq.u01 hi) (clF (psC (ba f r) f.length) (2^f.length) j)
  rcases Rat.le_iff_lt_or_eq.1 h2 with h3 | h3
  ·exact h3
  ·exact absurd h3.symm (of_decide_eq_true h1.2.2)
 ·refine(hl.mono hb2).congr λt ht=>?_
  by_cases e:psC (ba f r) f.length t=true
  ·rw[if_pos e]
  ·rw[if_neg e]
   exact(Classical.byContradiction λe2=>e (decide_eq_true λe3=>e2 e3.symm))
theorem uL (h:PX f r) (hD:D.length=2^f.length) {Q:Option Int->Prop} (hQ:Q none):eh (pcC f r D) (Lst (ba f r) f.length) Q:=by
 obtain⟨p1,p2⟩:=h.p16
 have hlen:=nS (u:=ba f r) (n:=f.length)
 unfold eh be bj gg
 refine h.check hD _ ?_
 refine aJ (λhh=>by cases hh) λ_=>?_
 refine ga (λhh=>absurd (show((Lst (ba f r) f.length).length:Int)=((2^f.length:Nat):Int) by rw[hlen]) hh) λ_=>?_
 refine pF (λ_=>False) om (λi next hi _ hnx=>⟨⟨om,om⟩,?_⟩) λ_=>?_
 ·rw[yx om]
  have hF:=eZ (h.prb i) (by decide)
  refine fo hF ?_
  rw[je]
  exact aJ (λhh=>by cases hh) λ_=>hnx (λhh=>hh)
 ·exact aJ (λhh=>by cases hh) λ_=>hQ
end
theorem zg {α:Type} [Inhabited α] {g:Nat->α} {N a:Nat} {x:α} (h:a<N):aN ((range N).map g) (a:Int) x=(range N).map (λt=>if t=a then x else g t):=by
 refine GI (by simp[aN]) λj hj=>?_
 have hj':j<N:=by simpa[aN] using hj
 rw[cm (by simpa using h),lL hj',lL hj']
theorem S_ {f r:List GRat} {n t B:Nat} {m:GMove} (hB:1<=B) (h:RB B (wt f r n m)):RB (B+B+1) (ct f r n t m):=by
 unfold ct
 refine sD ?_ ?_
 ·split
  ·exact h
  ·exact nR _ hB
 ·split
  ·exact h
  ·exact nR _ hB
theorem BZ {f r:List GRat} {n t B:Nat} {l:List GMove} (hB:1<=B) (h:∀j:Nat,j<l.length->RB B (wt f r n (at' l (j:Int)))):∀j,j<=l.length->RB (j*(B+B+2)+1) (dE (ct f r n t) (l.take j))
 | 0,_=>nR _ om
 | j+1,hj=>by
  rw[pi om]
  exact(qA (BZ hB h j om) (S_ hB (h j om))).mono (by rw[add_mul];omega)
section
variable {f r:List GRat} {D:List Bool}
theorem PX.zero (h:PX f r) {s i:Nat} (hi:i<f.length) (hg:iG f r s i=false):aF (cM f r s i)=0:=by
 have h3:¬0<aF (cM f r s i):=λh3=>by rw[ly.2 h3] at hg;cases hg
 have h5:0<=aF (cM f r s i):=by
  unfold cM
  split
  ·exact(h.pq.nn i hi).2
  ·exact(h.pq.nn i hi).1
 exact Rat.le_antisymm (Rat.not_lt.1 h3) h5
set_option maxHeartbeats 1000000 in
theorem sX (h:PX f r) {Q:Bool->Prop} (hQ:Q true):dg (pcC f r D) (Lst (ba f r) f.length) Q:=by
 obtain⟨p1,p2⟩:=h.p16
 have hml:=h.ml
 have hmv:=h.mv
 have hprb:=h.prb
 have hpq:=h.pq
 have hnet:=λ{t:Nat} (ht:t<2^f.length)=>zy (f:=f) (r:=r) hpq.n8 ht hpq.ne (λs _ i hi hg=>h.zero (s:=s) hi hg)
 have hat:=λ{s:Nat} (hs:s<2^f.length)=>yx (u:=ba f r) hs
 have hone:=oY (u:=ba f r) f.length
 have hpos:=λs=>FW f.length (λi hi=>hpq.u01 hi) s
 have hsrb:∀j,j<=2^f.length->RB 2145 (aB (pr (ba f r) f.length) j):=λj hj=>(ug (B:=133) j (λi _=>hprb i)).mono om
 have hlen:(Lst (ba f r) f.length).length=2^f.length:=nS
 have hwrb:∀j:Nat,j<(mvs f r f.length (2^f.length)).length->RB 150 (wt f r f.length (at' (mvs f r f.length (2^f.length)) (j:Int))):=λj hj=>by
  obtain⟨s,i,_,hi,h3,_⟩:=kB _ _ (kE hj)
  rw[h3]
  exact(sF (l:=10) (hprb _) (h.rt hi)).mono om
 have hrrb:∀j:Nat,j<(mvs f r f.length (2^f.length)).length->RB 10 (aF (at' (mvs f r f.length (2^f.length)) (j:Int)).X):=λj hj=>by
  obtain⟨s,i,_,hi,h3,_⟩:=kB _ _ (kE hj)
  rw[h3]
  exact h.rt hi
 have hnrb:=λ(t j:Nat) (hj:j<=(mvs f r f.length (2^f.length)).length)=>(BZ (t:=t) om hwrb j hj).mono (l:=40000) om
 unfold dg aY bc fm
 show fS 56 ((2^f.length:Nat):Int) ((2^f.length:Nat):Int)/\_
 unfold pcC
 generalize Lst (ba f r) f.length=L at *
 generalize hM:mvs f r f.length (2^f.length)=M at *
 have hMl:M.take M.length=M:=take_length
 generalize hN:2^f.length=N at *
 refine⟨i_ om om,?_⟩
 refine ig (n:=N) (λj=>((j:Int),ay (aB (pr (ba f r) f.length) j))) (λy=>y.1) 0 (λj=>by dsimp only;omega) rfl ?_ ?_
 ·intro j next hj hn
  refine condT (λhc3=>⟨⟨om,om⟩,?_⟩) (λhc3=>absurd (show(j:Int)<(L.length:Int) by omega) hc3)
  rw[hat hj]
  have rj:=Rp.of (hprb j) (show 133<=cap by decide)
  exact um rj (condT (λhh=>absurd (hpos j) (Rat.not_le.2 (qL.1 hh))) (λ_=>G7 (.of (hsrb j om) (by decide)) rj (by decide) λ_=>⟨zRg,hn⟩))
 intro next
 refine condT (λhc3=>absurd hc3 om) (λ_=>?_)
 refine ig (n:=M.length) (λj=>((j:Int),(range N).map λt=>ay (dE (ct f r f.length t) (M.take j)))) (λy=>y.1) 0 (λj=>by dsimp only;omega) ?_ ?_ ?_
 ·refine congrArg (λl=>((0:Int),l)) (GI (by simp[aQ]) λi hi=>?_)
  have hi':i<N:=by simp[aQ] at hi;omega
  rw[lL hi']
  simp[at',aQ,List.getD_eq_getElem?_getD,hi']
  rfl
 ·intro j next2 hj hn2
  obtain⟨⟨f0,f3⟩,⟨t0,t3⟩,hne,hfr,hok,hsg⟩:=hmv j hj
  have hw:=hwrb j hj
  have hrb:=hrrb j hj
  generalize hm:at' M (j:Int)=m at *
  obtain⟨a,ha⟩:=Int.eq_ofNat_of_zero_le f0
  obtain⟨b,hb⟩:=Int.eq_ofNat_of_zero_le t0
  have haN:a<N:=om
  have hbN:b<N:=om
  have hab:a≠b:=λe=>hne (by rw[ha,hb,e])
  have hwt:wt f r f.length m=pr (ba f r) f.length a*aF m.X:=by unfold wt;rw[ha,toNat_natCast]
  refine condT (λhc3=>⟨⟨om,om⟩,?_⟩) (λhc3=>absurd (show(j:Int)<(M.length:Int) by omega) hc3)
  dsimp only
  have hnl:∀(g:Nat->GRat),((range N).map g).length=N:=λg=>by simp
  rw[hm,ha,hb]
  refine⟨⟨om,om⟩,?_⟩
  rw[hat haN]
  refine ya (.of (hprb a) (by decide)) (.self hfr hrb) (by decide) λrw1=>⟨⟨om,by rw[hnl];omega⟩,?_⟩
  rw[lL haN,lL hbN]
  refine xJ (.of (hnrb a j om) (by decide)) rw1 (by decide) λ_=>⟨⟨om,by rw[hnl];omega⟩,oU (.of (hnrb b j om) (by decide)) rw1 (by decide) λ_=>⟨⟨om,by rw[hnl];omega⟩,⟨om,by rw[hnl];omega⟩,zRg,?_⟩⟩
  rw[zg haN,zg hbN]
  have e:((range N).map λt=>if t=b then ay (dE (ct f r f.length b) (M.take j)+pr (ba f r) f.length a*aF m.X) else if t=a then ay (dE (ct f r f.length a) (M.take j)-pr (ba f r) f.length a*aF m.X) else ay (dE (ct f r f.length t) (M.take j))) =
    (range N).map λt=>ay (dE (ct f r f.length t) (M.take (j+1))):=by
   refine List.map_congr_left λt _=>?_
   rw[pi hj,hm,<-hwt]
   unfold ct
   rw[ha,hb]
   by_cases e1:t=b
   ·subst e1
    rw[if_pos rfl,if_pos rfl,if_neg om]
    congr 1
    grind
   ·rw[if_neg e1]
    by_cases e2:t=a
    ·subst e2
     rw[if_pos rfl,if_neg om,if_pos rfl]
     congr 1
     grind
    ·rw[if_neg e2,if_neg om,if_neg om]
     congr 1
     grind
  rw[e]
  exact hn2
 ·intro next2
  refine condT (λhc3=>absurd hc3 (Int.lt_irrefl _)) (λ_=>?_)
  rw[hMl]
  refine F7 zRg λh1=>GQ (.of (hsrb N (le_refl N)) (by decide)) h1 (by decide) ?_
  rw[hone]
  have e0:gi (1-((1:Int):Rat))=0:=jq.2 (gf.2 rfl)
  rw[e0]
  refine bv (λ_=>⟨false,?_,hQ⟩) (λhh=>absurd rfl hh)
  have hnl:((range N).map λt=>ay (dE (ct f r f.length t) M)).length=N:=by simp
  refine pF (λ_=>False) (by rw[hnl];omega) (λt next3 ht _ hnx=>⟨⟨om,om⟩,?_⟩) (λ_=>rfl)
  rw[hnl] at ht
  rw[lL ht,hnet ht]
  refine um (.zero (k:=1) om (by decide)) ?_
  have e1:gi 0=0:=jq.2 rfl
  rw[e1]
  exact aJ (λhh=>by cases hh) λ_=>hnx λhh=>hh
theorem AH (h:PX f r) (hD:D.length=2^f.length) {Q:Bool->Option Int->Prop} (hQ:Q true none):eY (pcC f r D) (Lst (ba f r) f.length) Q:=by
 obtain⟨i0,hc⟩:=FT (c:=pcC f r D) h.pq rfl
 unfold eY
 refine uL h hD (aJ (λhh=>by cases hh) λ_=>sX h (aJ (λ_=>?_) λhh=>by cases hh))
 exact kq h.ch2.toCh hc hQ
theorem HJ (h:PX f r) (hD:D.length=2^f.length) {Q:GRat->Option Int->Prop} (hQ:RB 2145 (aB (λt=>if at' D (t:Int)=true then pr (ba f r) f.length t else 0) (2^f.length))->Q (ay (aB (λt=>if at' D (t:Int)=true then pr (ba f r) f.length t else 0) (2^f.length))) none):fV (pcC f r D) (Lst (ba f r) f.length) Q:=by
 obtain⟨p1,p2⟩:=h.p16
 have hprb:=h.prb
 have hlen:=nS (u:=ba f r) (n:=f.length)
 have hrb:∀j,j<=2^f.length->RB 2145 (aB (λt=>if at' D (t:Int)=true then pr (ba f r) f.length t else 0) j):=λj hj=>(ug (B:=133) j (λi _=>by
  split
  ·exact hprb i
  ·exact nR _ om)).mono om
 unfold fV gh
 refine uL h hD (aJ (λhh=>by cases hh) λ_=>sX h (aJ (λhh=>by cases hh) λ_=>aJ (λhh=>by cases hh) λ_=>?_))
 refine ig (n:=2^f.length) (λj=>((j:Int),ay (aB (λt=>if at' D (t:Int)=true then pr (ba f r) f.length t else 0) j))) (λy=>y.1) 0 (λj=>by dsimp only;omega) rfl ?_ ?_
 ·intro j next hj hn
  refine condT (λhc3=>⟨⟨om,om⟩,⟨om,show(j:Int)<(D.length:Int) by omega⟩,?_⟩) (λhc3=>absurd (show(j:Int)<((Lst (ba f r) f.length).length:Int) by omega) hc3)
  rw[yx hj]
  rw[aB] at hn
  refine aJ (λhd=>?_) (λhd=>⟨zRg,?_⟩)
  ·rw[if_pos (show at' D (j:Int)=true from hd)] at hn
   exact G7 (.of (hrb j om) (by decide)) (.of (hprb j) (by decide)) (by decide) λ_=>⟨zRg,hn⟩
  ·have hd':¬at' D (j:Int)=true:=λe=>by rw[show at' (pcC f r D).B (j:Int)=at' D (j:Int) from rfl,e] at hd;cases hd
   rw[if_neg hd',Rat.add_zero] at hn
   exact hn
 ·intro next
  exact condT (λhc3=>absurd hc3 om) λ_=>hQ (hrb _ (le_refl _))
end
def ex (p:Nat->Rat):List Nat->(Asg->Rat)->Asg->Rat
 | [],g,σ=>g σ
 | v :: l,g,σ=>(1-p v)*ex p l g (b_ σ v false)+p v*ex p l g (b_ σ v true)
def b2q (b:Bool):Rat:=bif b then 1 else 0
theorem kI {σ:Asg} {a b:Nat} {x y:Bool} (h:a≠b):b_ (b_ σ a x) b y=b_ (b_ σ b y) a x:=by
 funext i
 by_cases h1:i=b
 ·have h2:i≠a:=λe=>h (e.symm.trans h1)
  rw[gX h2,h1,fQ,fQ]
 ·rw[gX h1]
  by_cases h2:i=a
  ·rw[h2,fQ,fQ]
  ·rw[gX h2,gX h2,gX h1]
section
variable {p:Nat->Rat}
theorem zT:∀(l:List Nat) {g g':Asg->Rat} {σ:Asg},(∀τ:Asg,(∀v,v∉l->τ v=σ v)->g τ=g' τ)->ex p l g σ=ex p l g' σ
 | [],_,_,_,h=>h _ λ_ _=>rfl
 | v :: l,g,g',σ,h=>by
  have e:∀b,ex p l g (b_ σ v b)=ex p l g' (b_ σ v b):=λb=>zT l λτ ht=>h τ λw hw=>by
   rw[List.mem_cons,not_or] at hw
   rw[ht w hw.2,gX hw.1]
  rw[ex,ex,e,e]
theorem oN (l:List Nat) {g g':Asg->Rat} {σ:Asg} (h:∀τ,g τ=g' τ):ex p l g σ=ex p l g' σ:=zT l λτ _=>h τ
theorem A6:∀(l l':List Nat) {g:Asg->Rat} {σ:Asg},ex p (l++l') g σ=ex p l (λτ=>ex p l' g τ) σ
 | [],_,_,_=>rfl
 | v :: l,l',g,σ=>by rw[List.cons_append,ex,ex,A6 l l',A6 l l']
theorem rx:∀(l:List Nat) {c:Rat} {σ:Asg},ex p l (λ_=>c) σ=c
 | [],_,_=>rfl
 | v :: l,c,σ=>by rw[ex,rx l,rx l];grind
theorem sq:∀(l:List Nat) {g:Asg->Rat} {σ:Asg} {v:Nat} {b:Bool},v∉l->ex p l g (b_ σ v b)=ex p l (λτ=>g (b_ τ v b)) σ
 | [],_,_,_,_,_=>rfl
 | w :: l,g,σ,v,b,h=>by
  rw[List.mem_cons,not_or] at h
  rw[ex,ex,kI h.1,kI h.1,sq l h.2,sq l h.2]
theorem Jc {l:List Nat} {g:Asg->Rat} {σ:Asg} {v:Nat} (hv:v∉l) (h:∀τ b,g (b_ τ v b)=g τ):ex p (v :: l) g σ=ex p l g σ:=by
 rw[ex,sq l hv,sq l hv,oN l λτ=>h τ false,oN l λτ=>h τ true]
 grind
theorem Jd {l l':List Nat} (h:l.Perm l'):l.Nodup->∀ {g:Asg->Rat} {σ:Asg},ex p l g σ=ex p l' g σ:=by
 induction h with
 | nil=>intro _ g σ;rfl
 | cons x _ ih=>
  intro hn g σ
  rw[ex,ex,ih (List.nodup_cons.1 hn).2,ih (List.nodup_cons.1 hn).2]
 | swap x y l=>
  intro hn g σ
  have hne:y≠x:=λe=>(List.nodup_cons.1 hn).1 (by rw[e];exact List.mem_cons_self)
  simp only[ex]
  rw[kI (σ:=σ) (x:=false) (y:=false) hne,kI (σ:=σ) (x:=false) (y:=true) hne,kI (σ:=σ) (x:=true) (y:=false) hne,kI (σ:=σ) (x:=true) (y:=true) hne]
  grind
 | trans h1 h2 ih1 ih2=>intro hn g σ;rw[ih1 hn,ih2 (h1.nodup_iff.1 hn)]
theorem GH:∀(l:List Nat) {g:Asg->Rat} {σ:Asg},(∀v∈l,0<=p v/\p v<=1)->(∀τ,0<=g τ/\g τ<=1)->0<=ex p l g σ/\ex p l g σ<=1
 | [],_,σ,_,h=>h σ
 | v :: l,g,σ,hp,h=>by
  have h1:=GH l (σ:=b_ σ v false) (λw hw=>hp w (by simp[hw])) h
  have h2:=GH l (σ:=b_ σ v true) (λw hw=>hp w (by simp[hw])) h
  have h0:=hp v zSm
  rw[ex]
  generalize ex p l g (b_ σ v false)=a at h1 ⊢
  generalize ex p l g (b_ σ v true)=b at h2 ⊢
  generalize p v=x at h0 ⊢
  have hx:0<=1-x:=by grind
  have a1:=Rat.mul_nonneg hx h1.1
  have a2:=Rat.mul_nonneg h0.1 h2.1
  have a3:=Rat.mul_le_mul_of_nonneg_left h1.2 hx
  have a4:=Rat.mul_le_mul_of_nonneg_left h2.2 h0.1
  constructor<;>grind
def vQ (p:Nat->Rat):List Nat->Nat
 | []=>1
 | v :: l=>(p v).den*vQ p l
theorem vO:∀l,0<vQ p l
 | []=>Nat.one_pos
 | v :: l=>Nat.mul_pos (p v).den_pos (vO l)
theorem Ck {e:Nat}:∀l,(∀v∈l,RB e (p v))->vQ p l<2^(e*l.length+1)
 | [],_=>by simp[vQ]
 | v :: l,h=>by
  have h1:=Ck l λw hw=>h w (by simp[hw])
  have h2:=(h v zSm).2
  rw[vQ,List.length_cons,show e*(l.length+1)+1=e+(e*l.length+1) by rw[Nat.mul_add];omega,pow_add]
  have:=vO (p:=p) l
  exact lt_of_lt_of_le (Nat.mul_lt_mul_of_pos_right h2 this) (Nat.mul_le_mul_left _ (Nat.le_of_lt h1))
theorem A5:∀(l:List Nat) {g:Asg->Rat} {σ:Asg},(∀τ,∃z:Int,g τ=z)->∃z:Int,ex p l g σ*(vQ p l:Rat)=z
 | [],_,σ,h=>by
  obtain⟨z,hz⟩:=h σ
  exact⟨z,by rw[ex,hz,vQ];simp⟩
 | v :: l,g,σ,h=>by
  obtain⟨a,ha⟩:=A5 l (σ:=b_ σ v false) h
  obtain⟨b,hb⟩:=A5 l (σ:=b_ σ v true) h
  have hne:((p v).den:Rat)≠0:=by
   have:=(p v).den_nz
   exact_mod_cast this
  have hd:p v*((p v).den:Rat)=((p v).num:Rat):=calc
   p v*((p v).den:Rat)=((p v).num:Rat) / ((p v).den:Rat)*((p v).den:Rat):=by rw[<-Rat.mkRat_eq_div,Rat.mkRat_self]
   _=((p v).num:Rat):=Rat.div_mul_cancel hne
  refine⟨((p v).den-(p v).num)*a+(p v).num*b,?_⟩
  rw[ex,vQ]
  have e:((1-p v)*ex p l g (b_ σ v false)+p v*ex p l g (b_ σ v true))*(((p v).den*vQ p l:Nat):Rat)=(((p v).den:Rat)-p v*((p v).den:Rat))*(ex p l g (b_ σ v false)*(vQ p l:Rat))+(p v*((p v).den:Rat))*(ex p l g (b_ σ v true)*(vQ p l:Rat)):=by
   rw[Rat.natCast_mul];grind
  rw[e,ha,hb,hd]
  push_cast
  rfl
theorem U4 {x:Rat} {D e:Nat} {z:Int} (h0:0<=x) (h1:x<=1) (hz:x*(D:Rat)=z) (hD:0<D) (he:D<2^e):RB e x:=by
 have hDr:(0:Rat)<(D:Rat):=by exact_mod_cast hD
 have hx:x=mkRat z D:=by
  rw[Rat.mkRat_eq_div]
  show x=(z:Rat) / (D:Rat)
  rw[<-hz]
  grind
 have z0:0<=z:=by
  have:(0:Rat)<=(z:Rat):=by rw[<-hz];exact Rat.mul_nonneg h0 (Rat.le_of_lt hDr)
  exact_mod_cast this
 have z1:z<=(D:Int):=by
  have:(z:Rat)<=((D:Int):Rat):=by
   rw[<-hz]
   have:=Rat.mul_le_mul_of_nonneg_right h1 (Rat.le_of_lt hDr)
   rw[Rat.one_mul] at this
   exact this
  exact_mod_cast this
 rw[hx]
 exact vY om om he
theorem UX (b:Bool):0<=b2q b/\b2q b<=1:=by cases b<;>decide
theorem Jl (b:Bool):∃z:Int,b2q b=z:=match b with
 | false=>⟨0,rfl⟩
 | true=>⟨1,rfl⟩
theorem YV {l:List Nat} {f:Asg->Bool} {σ:Asg} {e:Nat} (hp:∀v∈l,0<=p v/\p v<=1) (he:∀v∈l,RB e (p v)):RB (e*l.length+1) (ex p l (λτ=>b2q (f τ)) σ):=by
 obtain⟨h1,h2⟩:=GH l (σ:=σ) hp λτ=>UX (f τ)
 obtain⟨z,hz⟩:=A5 (p:=p) l (σ:=σ) λτ=>Jl (f τ)
 exact U4 h1 h2 hz (vO l) (Ck l he)
variable {n:Nat} {lev:Nat->Nat} {ord:List Nat} {N:List GDNode}
theorem yi (hO:OrdL n lev ord) (h:WT n lev N) {r:Nat} (hr:r<2+N.length) {σ:Asg}:∀l0,l0<=lvl n lev N r->ex p (ord.drop l0) (λτ=>b2q (den N τ r)) σ=ex p ord (λτ=>b2q (den N τ r)) σ
 | 0,_=>by rw[List.drop_zero]
 | l0+1,hl=>by
  have hn:=WT.lvl_le hO.lv h (r:=r)
  have hlen:=hO.len
  have hg:ord[l0]? = some ord[l0]:=List.getElem?_eq_getElem om
  obtain⟨hv,hlv⟩:=hO.at_ _ _ hg
  have hd:=hO.drop hv
  rw[hlv] at hd
  have hnot:ord[l0]∉ord.drop (l0+1):=λhm=>by have:=(hO.mem.1 hm).2;omega
  have:=yi hO h hr (σ:=σ) l0 om
  rw[hd,Jc hnot λτ b=>by rw[h.den_set hr om τ]] at this
  exact this
def prS (p:Nat->Rat) (N:List GDNode) (ord:List Nat) (r:Nat):Rat:=ex p ord (λτ=>b2q (den N τ r)) (λ_=>false)
theorem HF:prS p N ord 0=0:=by
 unfold prS
 rw[oN ord (g':=λ_=>0) λτ=>by rw[gu];rfl,rx]
theorem RI:prS p N ord 1=1:=by
 unfold prS
 rw[oN ord (g':=λ_=>1) λτ=>by rw[iI];rfl,rx]
theorem HG (hO:OrdL n lev ord) (h:WT n lev N) {i:Nat} {x:GDNode} (hx:N[i]? = some x):prS p N ord (2+i)=(1-p x.Y.toNat)*prS p N ord x.E.toNat+p x.Y.toNat*prS p N ord x.I.toNat:=by
 have nd:=h.nd i x hx
 have hi:i<N.length:=(List.getElem?_eq_some_iff.1 hx).1
 have hv:x.Y.toNat<n:=by have:=nd.var;omega
 have hlv:lvl n lev N (2+i)=lev x.Y.toNat:=nI hx
 have hnot:x.Y.toNat∉ord.drop (lev x.Y.toNat+1):=λhm=>by have:=(hO.mem.1 hm).2;omega
 have h1:=nd.lo;have h2:=nd.hi;have h3:=nd.llo;have h4:=nd.lhi
 unfold prS
 rw[<-yi hO h (r:=2+i) om (lev x.Y.toNat) om,hO.drop hv,ex,sq _ hnot,sq _ hnot]
 rw[oN (g:=λτ=>b2q (den N (b_ τ x.Y.toNat false) (2+i))) (g':=λτ=>b2q (den N τ x.E.toNat)) _ λτ=>by rw[h.den_cof hx τ false];rfl]
 rw[oN (g:=λτ=>b2q (den N (b_ τ x.Y.toNat true) (2+i))) (g':=λτ=>b2q (den N τ x.I.toNat)) _ λτ=>by rw[h.den_cof hx τ true];rfl]
 rw[<-yi hO h (r:=x.E.toNat) om (lev x.Y.toNat+1) om,<-yi hO h (r:=x.I.toNat) om (lev x.Y.toNat+1) om]
end
structure TS (o place:List Int) (nodes:List GDNode) (unique memo:GMap Int):Prop where
 ord:Or14 o
 pl:place.length=o.length
 pl2:∀v:Nat,v<o.length->at' place (v:Int)=(iv o v:Int)
 tb:TB o.length (iv o) nodes unique memo
abbrev lvO (o:List Int) (nodes:List GDNode) (r:Int):Nat:=lvl o.length (iv o) nodes r.toNat
section
variable {o place:List Int} {nodes:List GDNode} {unique memo:GMap Int}
theorem TS.wt (h:TS o place nodes unique memo):WT o.length (iv o) nodes:=h.tb.wt
theorem TS.at (h:TS o place nodes unique memo) {r:Int} (hr:Vd nodes r) (h2:2<=r):nodes[(r-2).toNat]? = some (at' nodes (r-2))/\(0<=(at' nodes (r-2)).Y/\(at' nodes (r-2)).Y<o.length)/\(0<=(at' nodes (r-2)).E/\(at' nodes (r-2)).E<r)/\(0<=(at' nodes (r-2)).I/\(at' nodes (r-2)).I<r)/\
  lvO o nodes r=iv o (at' nodes (r-2)).Y.toNat/\lvO o nodes r<lvO o nodes (at' nodes (r-2)).E/\lvO o nodes r<lvO o nodes (at' nodes (r-2)).I:=by
 have h0:=hr.1
 have h1:=hr.2
 have hx:=GX (N:=nodes) (i:=(r-2).toNat) om
 rw[show(((r-2).toNat:Nat):Int)=r-2 by omega] at hx
 obtain⟨a,b,c,d,e,f⟩:=h.wt.nd _ _ hx
 have hl:lvO o nodes r=iv o (at' nodes (r-2)).Y.toNat:=by
  have:=nI (n:=o.length) (lev:=iv o) hx
  rw[show 2+(r-2).toNat=r.toNat by omega] at this
  exact this
 exact⟨hx,a,⟨om,om⟩,⟨om,om⟩,hl,by rw[hl];exact e,by rw[hl];exact f⟩
theorem tU (h:TS o place nodes unique memo) (hb:nodes.length<=1099511627776) {r:Int} (hr:Vd nodes r) {Q:Int->Prop} (hQ:Q (lvO o nodes r:Int)):a_ r o place nodes unique memo Q:=by
 have h0:=hr.1
 have h1:=hr.2
 refine condT (λh2=>?_) (λh2=>?_)
 ·rw[show lvO o nodes r=o.length from ie om] at hQ;exact hQ
 ·obtain⟨_,a,_,_,e,_,_⟩:=h.at hr om
  have hp:=h.pl
  have:=h.pl2 (at' nodes (r-2)).Y.toNat om
  rw[show(((at' nodes (r-2)).Y.toNat:Nat):Int)=(at' nodes (r-2)).Y by omega] at this
  refine⟨zRg,⟨om,om⟩,⟨om,om⟩,?_⟩
  rw[this,<-e]
  exact hQ
def kid (o:List Int) (nodes:List GDNode) (r:Int) (L:Nat) (b:Bool):Int:=if lvO o nodes r=L then (bif b then (at' nodes (r-2)).I else (at' nodes (r-2)).E) else r
theorem Be (h:TS o place nodes unique memo) (hb:nodes.length<=1099511627776) {r:Int} (hr:Vd nodes r) {L:Nat} (hL:L<o.length) {Q:Int->Int->Prop} (hQ:Q (kid o nodes r L false) (kid o nodes r L true)):br r (L:Int) o place nodes unique memo Q:=by
 have h0:=hr.1
 have h1:=hr.2
 refine tU h hb hr (ga (λhc=>?_) (λhc=>?_))
 ·rw[kid,kid,if_neg om,if_neg om] at hQ;exact hQ
 ·have h2:2<=r:=by
   by_cases h2:r<2
   ·rw[show lvO o nodes r=o.length from ie om] at hc;omega
   ·omega
  rw[kid,kid,if_pos om,if_pos om] at hQ
  exact⟨zRg,⟨om,om⟩,hQ⟩
theorem Sd (h:TS o place nodes unique memo) {r:Int} (hr:Vd nodes r) {L:Nat} (hL:L<o.length) (b:Bool):Vd nodes (kid o nodes r L b):=by
 have h0:=hr.1
 have h1:=hr.2
 unfold kid
 split
 ·rename_i hc
  have h2:2<=r:=by
   by_cases h2:r<2
   ·rw[show lvO o nodes r=o.length from ie om] at hc;omega
   ·omega
  obtain⟨_,_,c,d,_⟩:=h.at hr h2
  cases b
  ·exact⟨c.1,by simp only[cond_false];omega⟩
  ·exact⟨d.1,by simp only[cond_true];omega⟩
 ·exact hr
theorem H8 (h:TS o place nodes unique memo) {r:Int} (hr:Vd nodes r) {L:Nat} (hL:L<o.length) (hLr:L<=lvO o nodes r) (b:Bool):L+1<=lvO o nodes (kid o nodes r L b):=by
 have h0:=hr.1
 have h1:=hr.2
 unfold kid
 split
 ·rename_i hc
  have h2:2<=r:=by
   by_cases h2:r<2
   ·rw[show lvO o nodes r=o.length from ie om] at hc;omega
   ·omega
  obtain⟨_,_,_,_,_,f,g⟩:=h.at hr h2
  cases b
  ·simp only[cond_false];omega
  ·simp only[cond_true];omega
 ·rename_i hc;omega
theorem Se (h:TS o place nodes unique memo) {r:Int} (hr:Vd nodes r) {v:Nat} (hv:v<o.length) (hLr:iv o v<=lvO o nodes r) (b:Bool) (σ:Asg):dn nodes (kid o nodes r (iv o v) b) σ=dn nodes r (b_ σ v b):=by
 have h0:=hr.1
 have h1:=hr.2
 have hlv:=(h.ord.at_lev hv).1
 unfold kid
 split
 ·rename_i hc
  have h2:2<=r:=by
   by_cases h2:r<2
   ·rw[show lvO o nodes r=o.length from ie om] at hc;omega
   ·omega
  obtain⟨hx,a,c,d,e,_,_⟩:=h.at hr h2
  have hvv:(at' nodes (r-2)).Y.toNat=v:=h.ord.ord.lv.inj _ _ om hv om
  have:=h.wt.den_cof hx σ b
  rw[hvv,show 2+(r-2).toNat=r.toNat by omega] at this
  unfold dn
  rw[this]
  cases b<;>rfl
 ·rename_i hc
  exact(h.wt.den_set h1 (by show iv o v<lvO o nodes r;omega) σ).symm
theorem Jj {a b:Int}:(a == b)=decide (a=b):=by rw[Bool.eq_iff_iff];simp
theorem Ro (h:TS o place nodes unique memo) {r:Int} (hr:Vd nodes r) {l:Nat} (hl:l<=lvl o.length (iv o) nodes r.toNat):Dep (dn nodes r) ((iU o).drop l):=
 (h.wt.dep h.ord.ord hr.2).sub λv hv=>h.ord.ord.mem.2 ⟨(h.ord.ord.mem.1 hv).1,by have:=(h.ord.ord.mem.1 hv).2;omega⟩
theorem vp (h:TS o place nodes unique memo) {r:Int} (hr:Vd nodes r) {l:Nat} (hl:l<=o.length) (hd:Dep (dn nodes r) ((iU o).drop l)):l<=lvO o nodes r:=h.wt.lvl_ge h.ord.ord hr.2 hl hd
theorem Hc (h:TS o place nodes unique memo) (hb:nodes.length+1<=1099511627776) {v lo hi:Int} (hv:0<=v/\v<o.length) (hlo:Vd nodes lo) (hhi:Vd nodes hi) (h1:iv o v.toNat<lvO o nodes lo) (h2:iv o v.toNat<lvO o nodes hi) :
  ∃nodes' unique' r,(TS o place nodes' unique' memo/\Pre nodes nodes'/\Vd nodes' r/\(∀σ,dn nodes' r σ=bif σ v.toNat then dn nodes hi σ else dn nodes lo σ)/\nodes'.length<=nodes.length+1)/\
   ∀Q:List GDNode->GMap Int->Int->Prop,Q nodes' unique' r->ck v lo hi o place nodes unique memo Q:=by
 by_cases he:lo=hi
 ·exact⟨nodes,unique,lo,⟨h,Pre.refl _,hlo,λσ=>by rw[<-he];cases σ v.toNat<;>rfl,om⟩,λQ hQ=>bv (λ_=>hQ) (λhc=>absurd he hc)⟩
 cases hm:eT unique [v,lo,hi] with
 | some r=>
  obtain⟨a,b⟩:=h.tb.make_old hm
  refine⟨nodes,unique,r,⟨h,Pre.refl _,a,b,om⟩,λQ hQ=>bv (λhc=>absurd hc he) (λ_=>aJ (λhc=>?_) (λ_=>?_))⟩
  ·rw[hm] at hc;cases hc
  ·rw[hm];exact hQ
 | none=>
  obtain⟨a,b,c⟩:=h.tb.make_new hv hlo hhi he h1 h2 hm
  refine⟨_,_,_,⟨⟨h.ord,h.pl,h.pl2,a⟩,⟨_,rfl⟩,b,c,by simp⟩,λQ hQ=>bv (λhc=>absurd hc he) (λ_=>aJ (λ_=>⟨zRg,by rw[length_append,length_singleton];omega,hQ⟩) (λhc=>?_))⟩
  rw[hm] at hc;cases hc
theorem Hg:∀(k fu:Nat) {nodes:List GDNode} {unique memo:GMap Int} {c a b:Int},k<fu->TS o place nodes unique memo->nodes.length+2^k<=1099511627776->Vd nodes c->Vd nodes a->Vd nodes b->
  o.length<=k+lvO o nodes c->o.length<=k+lvO o nodes a->o.length<=k+lvO o nodes b->
  ∃nodes' unique' memo' r,(TS o place nodes' unique' memo'/\Pre nodes nodes'/\Vd nodes' r/\(∀σ,dn nodes' r σ=bif dn nodes c σ then dn nodes a σ else dn nodes b σ)/\nodes'.length+1<=nodes.length+2^k)/\
   ∀Q:List GDNode->GMap Int->GMap Int->Int->Prop,Q nodes' unique' memo' r->an fu c a b o place nodes unique memo Q:=by
 intro k
 induction k with
 | zero=>
  intro fu nodes unique memo c a b hfu h hb hc ha hb' lc la lb
  obtain⟨g,rfl⟩:∃g,fu=g+1:=⟨fu-1,om⟩
  have hc0:=hc.1
  have hc2:c<2:=by
   by_cases h2:c<2
   ·exact h2
   ·obtain⟨_,x,_,_,e,_⟩:=h.at hc om
    have:=(h.ord.at_lev (v:=(at' nodes (c-2)).Y.toNat) om).1
    omega
  rcases (show c=0\/c=1 by omega) with rfl | rfl
  ·refine⟨nodes,unique,memo,b,⟨h,Pre.refl _,hb',λσ=>by rw[dn0];rfl,by simp⟩,λQ hQ=>?_⟩
   rw[an]
   refine⟨λ_=>False,⟨λx=>x=decide (a=b),bv (λhh=>by cases hh) (λ_=>Jj),?_⟩,λ_ hh=>hh.elim⟩
   rintro x rfl
   refine condT (λhe=>by rw[he];exact hQ) (λ_=>bv (λ_=>hQ) (λhh=>absurd rfl hh))
  ·refine⟨nodes,unique,memo,a,⟨h,Pre.refl _,ha,λσ=>by rw[dn1];rfl,by simp⟩,λQ hQ=>?_⟩
   rw[an]
   refine⟨λ_=>False,⟨λx=>x=true,bv (λ_=>rfl) (λhh=>absurd rfl hh),?_⟩,λ_ hh=>hh.elim⟩
   rintro x rfl
   exact aJ (λ_=>hQ) (λhh=>by cases hh)
 | succ k ih=>
  intro fu nodes unique memo c a b hfu h hb hc ha hb' lc la lb
  obtain⟨g,rfl⟩:∃g,fu=g+1:=⟨fu-1,om⟩
  have hpk:0<2^k:=pow_pos om
  rw[pow_succ] at hb
  have h1:1<=2^(k+1):=pow_pos om
  have hc0:=hc.1
  by_cases q1:c=1\/a=b
  ·refine⟨nodes,unique,memo,a,⟨h,Pre.refl _,ha,λσ=>?_,om⟩,λQ hQ=>?_⟩
   ·rcases q1 with rfl | rfl
    ·rw[dn1];rfl
    ·cases dn nodes c σ<;>rfl
   ·rw[an]
    refine⟨λ_=>False,⟨λx=>x=true,bv (λ_=>rfl) (λhh=>by simpa using q1.resolve_left hh),?_⟩,λ_ hh=>hh.elim⟩
    rintro x rfl
    exact aJ (λ_=>hQ) (λhh=>by cases hh)
  by_cases q2:c=0
  ·refine⟨nodes,unique,memo,b,⟨h,Pre.refl _,hb',λσ=>by rw[q2,dn0];rfl,om⟩,λQ hQ=>?_⟩
   rw[an]
   refine⟨λ_=>False,⟨λx=>x=false,bv (λhh=>absurd (.inl hh) q1) (λ_=>by simpa using λhh=>q1 (.inr hh)),?_⟩,λ_ hh=>hh.elim⟩
   rintro x rfl
   exact aJ (λhh=>by cases hh) (λ_=>bv (λ_=>hQ) (λhh=>absurd q2 hh))
  by_cases q3:a=1/\b=0
  ·refine⟨nodes,unique,memo,c,⟨h,Pre.refl _,hc,λσ=>by rw[q3.1,q3.2,dn0,dn1];cases dn nodes c σ<;>rfl,om⟩,λQ hQ=>?_⟩
   rw[an]
   refine⟨λ_=>False,⟨λx=>x=false,bv (λhh=>absurd (.inl hh) q1) (λ_=>by simpa using λhh=>q1 (.inr hh)),?_⟩,λ_ hh=>hh.elim⟩
   rintro x rfl
   exact aJ (λhh=>by cases hh) (λ_=>bv (λhh=>absurd hh q2) (λ_=>bv (λ_=>bv (λ_=>hQ) (λhh=>absurd q3.2 hh)) (λhh=>absurd q3.1 hh)))
  have enter:∀Q:List GDNode->GMap Int->GMap Int->Int->Prop,
    ac (isSome (eT memo [c,a,b]))
    (Q nodes unique memo (getD (eT memo [c,a,b]) 0))
    (a_ c o place nodes unique memo λr=>
    a_ a o place nodes unique memo λr1=>
    a_ b o place nodes unique memo λr2=>
    br c (min (min r r1) r2) o place nodes unique memo λr3 r4=>
    br a (min (min r r1) r2) o place nodes unique memo λr5 r6=>
    br b (min (min r r1) r2) o place nodes unique memo λr7 r8=>
    an g r3 r5 r7 o place nodes unique memo λu u1 u2 lo=>
    an g r4 r6 r8 o place u u1 u2 λu3 u4 u5 hi=>
    ((0:Int)<=(min (min r r1) r2)/\(min (min r r1) r2)<(o.length:Int))/\
    ck (at' o (min (min r r1) r2)) lo hi o place u3 u4 u5 λu6 u7 r9=>
    Q u6 u7 (mput u5 [c,a,b] r9) r9)->an (g+1) c a b o place nodes unique memo Q:=λQ hq=>by
   rw[an]
   refine⟨λ_=>True,⟨λx=>x=false,bv (λhh=>absurd (.inl hh) q1) (λ_=>by simpa using λhh=>q1 (.inr hh)),?_⟩,λ_ _=>hq⟩
   rintro x rfl
   exact aJ (λhh=>by cases hh) (λ_=>bv (λhh=>absurd hh q2) (λ_=>bv (λq4=>bv (λhh=>absurd ⟨q4,hh⟩ q3) (λ_=>trivial)) (λ_=>trivial)))
  cases hm:eT memo [c,a,b] with
  | some r=>
   obtain⟨_,m2,m3⟩:=h.tb.me c a b r hm
   refine⟨nodes,unique,memo,r,⟨h,Pre.refl _,m2,m3,om⟩,λQ hQ=>enter Q ?_⟩
   rw[hm]
   exact aJ (λ_=>hQ) (λhh=>by cases hh)
  | none=>
   have hc2:2<=c:=om
   obtain⟨_,cv,_,_,ce,_⟩:=h.at hc hc2
   have clv:=(h.ord.at_lev (v:=(at' nodes (c-2)).Y.toNat) om).1
   generalize hL:min (min (lvO o nodes c) (lvO o nodes a)) (lvO o nodes b)=L
   have hLn:L<o.length:=om
   have hLI:min (min (lvO o nodes c:Int) (lvO o nodes a:Int)) (lvO o nodes b:Int)=(L:Int):=om
   have hbn:nodes.length<=1099511627776:=om
   obtain⟨v,hv⟩:∃v:Nat,at' o (L:Int)=v:=⟨(at' o (L:Int)).toNat,by have:=h.ord.rg L hLn;omega⟩
   have hvn:v<o.length:=by have:=h.ord.rg L hLn;omega
   have hvL:iv o v=L:=by have:=h.ord.lev_at hLn;rwa[hv,toNat_natCast] at this
   have kv:=λ(r:Int) (hr:Vd nodes r) (b:Bool)=>Sd h hr hLn b
   have kl:=λ(r:Int) (hr:Vd nodes r) (hl:L<=lvO o nodes r) (b:Bool)=>H8 h hr hLn hl b
   have kd:=λ(r:Int) (hr:Vd nodes r) (hl:L<=lvO o nodes r) (b:Bool) (σ:Asg)=>by
    have:=Se h hr hvn (by rw[hvL];exact hl) b σ
    rwa[hvL] at this
   have lC:L<=lvO o nodes c:=om
   have lA:L<=lvO o nodes a:=om
   have lB:L<=lvO o nodes b:=om
   obtain⟨n1,u1,m1,lo,⟨t1,p1,v1,d1,s1⟩,w1⟩:=ih g om h om (kv c hc false) (kv a ha false) (kv b hb' false) (by have:=kl c hc lC false;omega) (by have:=kl a ha lA false;omega) (by have:=kl b hb' lB false;omega)
   have lv1:∀r b,Vd nodes r->L<=lvO o nodes r->L+1<=lvO o n1 (kid o nodes r L b):=λr b hr hl=>by
    show L+1<=lvl o.length (iv o) n1 (kid o nodes r L b).toNat
    rw[Pre.lvl (kv r hr b) p1];exact kl r hr hl b
   obtain⟨n2,u2,m2,hi,⟨t2,p2,v2,d2,s2⟩,w2⟩:=ih g om t1 om ((kv c hc true).pre p1) ((kv a ha true).pre p1) ((kv b hb' true).pre p1) (by have:=lv1 c true hc lC;omega) (by have:=lv1 a true ha lA;omega) (by have:=lv1 b true hb' lB;omega)
   have v1':=v1.pre p2
   have dlo:∀σ,dn n2 lo σ=bif dn nodes c (b_ σ v false) then dn nodes a (b_ σ v false) else dn nodes b (b_ σ v false):=λσ=>by
    rw[fM v1 p2,d1,kd c hc lC,kd a ha lA,kd b hb' lB]
   have dhi:∀σ,dn n2 hi σ=bif dn nodes c (b_ σ v true) then dn nodes a (b_ σ v true) else dn nodes b (b_ σ v true):=λσ=>by
    rw[d2,fM (kv c hc true) p1,fM (kv a ha true) p1,fM (kv b hb' true) p1,kd c hc lC,kd a ha lA,kd b hb' lB]
   have dep:∀(r:Int) (hr:Vd nodes r),L<=lvO o nodes r->∀(b:Bool) (σ σ':Asg),(∀w∈(iU o).drop (L+1),σ w=σ' w)->dn nodes r (b_ σ v b)=dn nodes r (b_ σ' v b):=λr hr hl b σ σ' hh=>by
    have:=Ro h hr hl
    have hdr:(iU o).drop L=v :: (iU o).drop (L+1):=by have:=h.ord.ord.drop hvn;rwa[hvL] at this
    rw[hdr] at this
    exact this.set σ σ' hh
   have llo:L+1<=lvO o n2 lo:=vp t2 v1' om λσ σ' hh=>by
    simp only[dlo]
    rw[dep c hc lC false σ σ' hh,dep a ha lA false σ σ' hh,dep b hb' lB false σ σ' hh]
   have lhi:L+1<=lvO o n2 hi:=vp t2 v2 om λσ σ' hh=>by
    simp only[dhi]
    rw[dep c hc lC true σ σ' hh,dep a ha lA true σ σ' hh,dep b hb' lB true σ σ' hh]
   obtain⟨n3,u3,r,⟨t3,p3,v3,d3,s3⟩,w3⟩:=Hc t2 om (v:=(v:Int)) ⟨om,om⟩ v1' v2 (by rw[toNat_natCast,hvL];omega) (by rw[toNat_natCast,hvL];omega)
   have p13:=(p1.trans p2).trans p3
   have hres:∀σ,dn n3 r σ=bif dn nodes c σ then dn nodes a σ else dn nodes b σ:=λσ=>by
    rw[d3,toNat_natCast]
    cases hs:σ v
    ·rw[cond_false,dlo,show b_ σ v false=σ by rw[<-hs];exact tQ]
    ·rw[cond_true,dhi,show b_ σ v true=σ by rw[<-hs];exact tQ]
   refine⟨n3,u3,mput m2 [c,a,b] r,r,⟨⟨t3.ord,t3.pl,t3.pl2,t3.tb.memo_put (hc.pre p13) (ha.pre p13) (hb'.pre p13) v3 (λσ=>by rw[fM hc p13,fM ha p13,fM hb' p13];exact hres σ)⟩,p13,v3,hres,by rw[pow_succ];omega⟩,λQ hQ=>enter Q ?_⟩
   rw[hm]
   refine aJ (λhh=>by cases hh) (λ_=>tU h hbn hc (tU h hbn ha (tU h hbn hb' ?_)))
   rw[hLI]
   refine Be h hbn hc hLn (Be h hbn ha hLn (Be h hbn hb' hLn (w1 _ (w2 _ ⟨⟨om,om⟩,?_⟩))))
   rw[hv]
   exact w3 _ hQ
end
section
variable {o place:List Int} {nodes:List GDNode} {unique memo:GMap Int}
structure After (o place:List Int) (nodes nodes':List GDNode) (unique' memo':GMap Int) (r:Int) (f:Asg->Bool) (c:Nat):Prop where
 ts:TS o place nodes' unique' memo'
 pre:Pre nodes nodes'
 vd:Vd nodes' r
 dn:dn nodes' r=f
 le:nodes'.length<=nodes.length+c
theorem oW (h:TS o place nodes unique memo) (hb:nodes.length+2^o.length<=1099511627776) {c a b:Int} (hc:Vd nodes c) (ha:Vd nodes a) (hb':Vd nodes b) :
  ∃nodes' unique' memo' r,After o place nodes nodes' unique' memo' r (λσ=>bif dn nodes c σ then dn nodes a σ else dn nodes b σ) (2^o.length)/\
   ∀Q:List GDNode->GMap Int->GMap Int->Int->Prop,Q nodes' unique' memo' r->∃fu,an fu c a b o place nodes unique memo Q:=by
 obtain⟨n1,u1,m1,r,⟨a1,a2,a3,a4,a5⟩,w⟩:=Hg o.length (o.length+1) om h hb hc ha hb' om om om
 exact⟨n1,u1,m1,r,⟨a1,a2,a3,funext a4,om⟩,λQ hQ=>⟨o.length+1,w Q hQ⟩⟩
theorem abw (h:TS o place nodes unique memo) (hb:nodes.length+2^o.length<=1099511627776) {a b:Int} (ha:Vd nodes a) (hb':Vd nodes b) :
  ∃nodes' unique' memo' r,After o place nodes nodes' unique' memo' r (λσ=>dn nodes a σ && dn nodes b σ) (2^o.length)/\
   ∀Q:List GDNode->GMap Int->GMap Int->Int->Prop,Q nodes' unique' memo' r->dx a b o place nodes unique memo Q:=by
 obtain⟨n1,u1,m1,r,h1,w⟩:=oW h hb ha hb' vd0
 refine⟨n1,u1,m1,r,⟨h1.ts,h1.pre,h1.vd,by rw[h1.dn,dn0];funext σ;cases dn nodes a σ<;>rfl,h1.le⟩,λQ hQ=>w Q hQ⟩
theorem acs (h:TS o place nodes unique memo) (hb:nodes.length+2^o.length<=1099511627776) {a b:Int} (ha:Vd nodes a) (hb':Vd nodes b) :
  ∃nodes' unique' memo' r,After o place nodes nodes' unique' memo' r (λσ=>dn nodes a σ || dn nodes b σ) (2^o.length)/\
   ∀Q:List GDNode->GMap Int->GMap Int->Int->Prop,Q nodes' unique' memo' r->dK a b o place nodes unique memo Q:=by
 obtain⟨n1,u1,m1,r,h1,w⟩:=oW h hb ha vd1 hb'
 refine⟨n1,u1,m1,r,⟨h1.ts,h1.pre,h1.vd,by rw[h1.dn,dn1];funext σ;cases dn nodes a σ<;>rfl,h1.le⟩,λQ hQ=>w Q hQ⟩
theorem Rj (h:TS o place nodes unique memo) (hb:nodes.length+2^o.length<=1099511627776) {a:Int} (ha:Vd nodes a) :
  ∃nodes' unique' memo' r,After o place nodes nodes' unique' memo' r (λσ=>!dn nodes a σ) (2^o.length)/\
   ∀Q:List GDNode->GMap Int->GMap Int->Int->Prop,Q nodes' unique' memo' r->dw a o place nodes unique memo Q:=by
 obtain⟨n1,u1,m1,r,h1,w⟩:=oW h hb ha vd0 vd1
 refine⟨n1,u1,m1,r,⟨h1.ts,h1.pre,h1.vd,by rw[h1.dn,dn0,dn1];funext σ;cases dn nodes a σ<;>rfl,h1.le⟩,λQ hQ=>w Q hQ⟩
theorem abt (h:TS o place nodes unique memo) (hb:nodes.length+2*2^o.length<=1099511627776) {a b:Int} (ha:Vd nodes a) (hb':Vd nodes b) :
  ∃nodes' unique' memo' r,After o place nodes nodes' unique' memo' r (λσ=>dn nodes a σ != dn nodes b σ) (2*2^o.length)/\
   ∀Q:List GDNode->GMap Int->GMap Int->Int->Prop,Q nodes' unique' memo' r->dv a b o place nodes unique memo Q:=by
 obtain⟨n1,u1,m1,r1,h1,w1⟩:=Rj h om hb'
 have:=h1.le
 obtain⟨n2,u2,m2,r,h2,w2⟩:=oW h1.ts om (ha.pre h1.pre) h1.vd (hb'.pre h1.pre)
 have:=h2.le
 refine⟨n2,u2,m2,r,⟨h2.ts,h1.pre.trans h2.pre,h2.vd,?_,om⟩,λQ hQ=>w1 _ (w2 Q hQ)⟩
 rw[h2.dn,h1.dn,fM ha h1.pre,fM hb' h1.pre]
 funext σ
 show(bif dn nodes a σ then !dn nodes b σ else dn nodes b σ)=_
 cases dn nodes a σ<;>cases dn nodes b σ<;>rfl
theorem Jy (h:TS o place nodes unique memo) (hb:nodes.length+1<=1099511627776) {v:Int} (hv:0<=v/\v<o.length) :
  ∃nodes' unique' r,After o place nodes nodes' unique' memo r (λσ=>σ v.toNat) 1/\
   ∀Q:List GDNode->GMap Int->Int->Prop,Q nodes' unique' r->cJ v o place nodes unique memo Q:=by
 have hl:=(h.ord.at_lev (v:=v.toNat) om).1
 obtain⟨n1,u1,r,⟨a1,a2,a3,a4,a5⟩,w⟩:=Hc h hb hv vd0 vd1 (by show _<lvl _ _ _ 0;rw[ie om];exact hl) (by show _<lvl _ _ _ 1;rw[ie om];exact hl)
 refine⟨n1,u1,r,⟨a1,a2,a3,?_,a5⟩,λQ hQ=>w Q hQ⟩
 funext σ
 rw[a4,dn0,dn1]
 cases σ v.toNat<;>rfl
theorem R_ {V:Type} {m:GMap V} {k:List Int} {v:V}:(mput m k v).n<=m.n+1:=by
 unfold mput
 dsimp only
 cases (m.f k).isSome
 ·exact le_refl _
 ·exact Nat.le_succ _
theorem xx (h:TS o place nodes unique memo) (hb:nodes.length<=1099511627776):∀(k fu:Nat) {seen:GMap Bool} {r most:Int},k<fu->Vd nodes r->o.length<=k+lvO o nodes r->
  ∃seen':GMap Bool,seen'.n+1<=seen.n+2^k/\∀Q:GMap Bool->Prop,Q seen'->aR fu r most seen o place nodes unique memo Q:=by
 intro k
 induction k with
 | zero=>
  intro fu seen r most hfu hr hk
  obtain⟨f,rfl⟩:∃f,fu=f+1:=⟨fu-1,om⟩
  refine⟨seen,by simp,λQ hQ=>?_⟩
  rw[aR]
  refine condT (λ_=>hQ) (λhc=>?_)
  obtain⟨_,x,_,_,e,_⟩:=h.at hr om
  have:=(h.ord.at_lev (v:=(at' nodes (r-2)).Y.toNat) om).1
  omega
 | succ k ih=>
  intro fu seen r most hfu hr hk
  obtain⟨f,rfl⟩:∃f,fu=f+1:=⟨fu-1,om⟩
  have hpk:0<2^k:=pow_pos om
  rw[pow_succ]
  by_cases h2:r<2
  ·refine⟨seen,om,λQ hQ=>?_⟩
   rw[aR]
   exact condT (λ_=>hQ) (λhc=>absurd h2 hc)
  by_cases h3:getD (eT seen [r]) false=true
  ·refine⟨seen,om,λQ hQ=>?_⟩
   rw[aR]
   exact condT (λ_=>hQ) (λ_=>aJ (λ_=>hQ) (λhc=>by rw[h3] at hc;cases hc))
  by_cases h4:most<((GMap.n seen:Nat):Int)
  ·refine⟨seen,om,λQ hQ=>?_⟩
   rw[aR]
   exact condT (λ_=>hQ) (λ_=>aJ (λ_=>hQ) (λ_=>condT (λ_=>hQ) (λhc=>absurd h4 hc)))
  obtain⟨_,_,xl,xh,_,xlo,xhi⟩:=h.at hr om
  have hr2:=hr.2
  have hn:=R_ (m:=seen) (k:=[r]) (v:=true)
  obtain⟨s1,c1,w1⟩:=ih f (seen:=mput seen [r] true) (r:=(at' nodes (r-2)).E) (most:=most) om ⟨xl.1,om⟩ om
  obtain⟨s2,c2,w2⟩:=ih f (seen:=s1) (r:=(at' nodes (r-2)).I) (most:=most) om ⟨xh.1,om⟩ om
  refine⟨s2,om,λQ hQ=>?_⟩
  rw[aR]
  exact condT (λhc=>absurd hc h2) (λ_=>aJ (λhc=>absurd hc h3) (λ_=>condT (λhc=>absurd hc h4) (λ_=>⟨zRg,⟨om,om⟩,s1,w1 _ rfl,zRg,⟨om,om⟩,s2,w2 _ rfl,hQ⟩)))
theorem Ju (h:TS o place nodes unique memo) (hb:nodes.length<=1099511627776) (hn:o.length<=12) {r:Int} (hr:Vd nodes r) {Q:Bool->Prop} (hQ:Q true):bA r 4096 o place nodes unique memo Q:=by
 obtain⟨s,c,w⟩:=xx h hb o.length (o.length+1) (seen:=ib) (r:=r) (most:=4096) om hr om
 have h12:2^o.length<=4096:=Nat.pow_le_pow_right (n:=2) om hn
 have h0:(ib:GMap Bool).n=0:=rfl
 refine⟨o.length+1,w _ ?_⟩
 rw[decide_eq_true om]
 exact hQ
theorem Bf (h:TS o place nodes unique memo) (hb:nodes.length<=1099511627776) {root:Int} {oo:List Int}:∀(k fu:Nat) {refs:GMap Int} {M:List GDNode} {r:Int},k<fu->Vd nodes r->o.length<=k+lvO o nodes r->EX o.length (iv o) nodes refs M->M.length+2^k<=1099511627776->
  ∃(refs':GMap Int) (M':List GDNode) (x:Int),(EX o.length (iv o) nodes refs' M'/\0<=x/\dc (iU o) (dn nodes r) M=(M',x.toNat)/\M'.length+1<=M.length+2^k/\∀q:Int,r<q->eT refs' [q]=eT refs [q])/\
   ∀Q:GMap Int->List GDNode->Int->Prop,Q refs' M' x->aT fu r root refs oo M o place nodes unique memo Q:=by
 intro k
 induction k with
 | zero=>
  intro fu refs M r hfu hr hk hE hB
  obtain⟨f,rfl⟩:∃f,fu=f+1:=⟨fu-1,om⟩
  have h0:=hr.1
  have h2:r<2:=by
   by_cases h2:r<2
   ·exact h2
   ·obtain⟨_,x,_,_,e,_⟩:=h.at hr om
    have:=(h.ord.at_lev (v:=(at' nodes (r-2)).Y.toNat) om).1
    omega
  have hm:eT refs [r]=some r:=by
   rcases (show r=0\/r=1 by omega) with rfl | rfl
   ·exact hE.c0
   ·exact hE.c1
  refine⟨refs,M,r,⟨hE,h0,hE.old h.ord.ord h.wt hm,by simp,λ_ _=>rfl⟩,λQ hQ=>?_⟩
  rw[aT,hm]
  exact aJ (λ_=>hQ) (λhc=>by cases hc)
 | succ k ih=>
  intro fu refs M r hfu hr hk hE hB
  obtain⟨f,rfl⟩:∃f,fu=f+1:=⟨fu-1,om⟩
  have hpk:0<2^k:=pow_pos om
  rw[pow_succ] at hB ⊢
  cases hm:eT refs [r] with
  | some x=>
   refine⟨refs,M,x,⟨hE,(hE.sound r x hm).2.2.1,hE.old h.ord.ord h.wt hm,om,λ_ _=>rfl⟩,λQ hQ=>?_⟩
   rw[aT,hm]
   exact aJ (λ_=>hQ) (λhc=>by cases hc)
  | none=>
   have h0:=hr.1
   have h2:2<=r:=by
    by_cases h2:r<2
    ·rcases (show r=0\/r=1 by omega) with rfl | rfl
     ·rw[hE.c0] at hm;cases hm
     ·rw[hE.c1] at hm;cases hm
    ·omega
   obtain⟨hx,_,xl,xh,_,xlo,xhi⟩:=h.at hr h2
   have hr2:=hr.2
   obtain⟨r1,M1,y1,⟨E1,z1,e1,c1,k1⟩,w1⟩:=ih f (refs:=refs) (M:=M) (r:=(at' nodes (r-2)).E) om ⟨xl.1,om⟩ om hE om
   obtain⟨r2,M2,y2,⟨E2,z2,e2,c2,k2⟩,w2⟩:=ih f (refs:=r1) (M:=M1) (r:=(at' nodes (r-2)).I) om ⟨xh.1,om⟩ om E1 om
   have hno:eT r2 [r]=none:=by rw[k2 r om,k1 r om];exact hm
   have er:r=((2+(r-2).toNat:Nat):Int):=om
   have hN:=EX.node h.ord.ord h.wt hE.wt E2 hx z1 z2 e1 e2 (by rw[<-er];exact hno)
   rw[<-er] at hN
   obtain⟨ha,hE3⟩:=hN
   have hlen:(M2++[(⟨(at' nodes (r-2)).Y,y1,y2⟩:GDNode)]).length=M2.length+1:=by rw[length_append];rfl
   refine⟨_,_,((2+M2.length:Nat):Int),⟨hE3,om,?_,by rw[hlen];omega,λq hq=>?_⟩,λQ hQ=>?_⟩
   ·rw[show dn nodes r=λσ=>den nodes σ (2+(r-2).toNat) from ?_,ha,toNat_natCast]
    funext σ
    unfold dn
    congr 1
    omega
   ·rw[dI,if_neg om,k2 q om,k1 q om]
   ·rw[aT,hm]
    refine aJ (λhc=>by cases hc) (λ_=>⟨zRg,⟨om,om⟩,w1 _ (w2 _ ⟨by rw[hlen];omega,by rw[hlen];unfold rng;omega,?_⟩)⟩)
    rw[hlen,dI,if_pos rfl,show(1+((M2.length+1:Nat):Int))=((2+M2.length:Nat):Int) by omega]
    exact hQ
theorem Hf (h:TS o place nodes unique memo) (hb:nodes.length<=1099511627776) {r:Int} (hr:Vd nodes r) {Q:GDiagram->Prop} (hQ:Q (tL o (dn nodes r))):cI r o place nodes unique memo Q:=by
 have hn:=h.ord.le
 have hp:=qs hn
 obtain⟨refs,M,x,⟨_,z,e,_,_⟩,w⟩:=Bf h hb (root:=0) (oo:=o) o.length (o.length+1) (refs:=mput (mput (ib:GMap Int) [0] 0) [1] 1) (M:=[]) (r:=r) om hr om EX.start (by simp;omega)
 refine⟨om,o.length+1,w _ ?_⟩
 have:(⟨o,M,x⟩:GDiagram)=tL o (dn nodes r):=by
  unfold tL
  rw[e]
  simp only[GDiagram.mk.injEq,true_and]
  omega
 rw[this]
 exact hQ
end
theorem pb {α:Type} {n:Int} {x:α} (h:0<=n):((aQ n x).length:Int)=n:=by simp[aQ];omega
theorem RA {α:Type} [Inhabited α] {n:Int} {x:α} {i:Nat} (h:(i:Int)<n):at' (aQ n x) (i:Int)=x:=by
 simp[at',aQ,List.getD_eq_getElem?_getD,show i<n.toNat by omega]
instance:DecidableEq GDiagram:=λa b=>decidable_of_iff (a.T=b.T/\a.N=b.N/\a.G=b.G) (by cases a;cases b;simp)
theorem abv {o:List Int} {Q:List Int->List Int->GMap Int->GMap Int->Prop} (h:Or14 o) (hQ:∀place,TS o place [] ib ib->Q o place ib ib):iK o Q:=by
 have hle:=h.le
 refine⟨om,⟨om,om,om,om⟩,?_⟩
 refine bQ (n:=o.length) (λi y=>y.1=(i:Int)/\y.2.length=o.length/\∀v:Nat,v<o.length->iv o v<i->at' y.2 (v:Int)=(iv o v:Int)) (λy=>y.1) 0 (λi y hy=>by rw[hy.1];omega) ⟨rfl,by simp[aQ],λv hv hl=>absurd hl om⟩ ?_ ?_
 ·rintro i ⟨x,out⟩ next hi ⟨hx,hl,hI⟩ hn
  dsimp only at hx hl hI
  subst hx
  have hr:=h.rg i hi
  obtain⟨v,hv⟩:∃v:Nat,at' o (i:Int)=v:=⟨(at' o (i:Int)).toNat,om⟩
  have hlv:=h.lev_at hi
  rw[hv,toNat_natCast] at hlv
  refine condT (λ_=>⟨⟨om,om⟩,om,zRg,hn _ ⟨by dsimp only;omega,by dsimp only;rw[bJ];exact hl,λu hu hul=>?_⟩⟩) (λhc=>absurd (show(i:Int)<o.length by omega) hc)
  dsimp only
  rw[hv,cm om]
  split
  ·rename_i he;subst he;rw[hlv]
  ·rename_i he
   refine hI u hu ?_
   rcases lt_or_ge (iv o u) i with h5 | h5
   ·exact h5
   ·have h6:=(h.at_lev hu).2
    rw[show iv o u=i by omega,hv] at h6
    omega
 ·rintro⟨x,out⟩ next ⟨hx,hl,hI⟩
  dsimp only at hx hl hI
  subst hx
  exact condT (λhc=>absurd hc om) (λ_=>hQ out ⟨h,hl,λv hv=>hI v hv (h.at_lev hv).1,TB.nil⟩)
def dF (d:GDiagram):Asg->Bool:=dn d.N d.G
structure Opn (l:List GDiagram) (place:List Int) (nodes:List GDNode) (unique memo:GMap Int) (refs:List Int):Prop where
 ts:TS (at' l 0).T place nodes unique memo
 len:refs.length=l.length
 le:nodes.length<=4096*l.length
 ref:∀i:Nat,i<l.length->Vd nodes (at' refs (i:Int))/\dn nodes (at' refs (i:Int))=dF (at' l (i:Int))
def noD:GDiagram:=⟨[],[],0⟩
section
variable {o place:List Int} {nodes:List GDNode} {unique memo:GMap Int}
end
theorem After.mono {o place:List Int} {nodes nodes':List GDNode} {unique' memo':GMap Int} {r:Int} {f:Asg->Bool} {c c':Nat} (h:After o place nodes nodes' unique' memo' r f c) (hc:c<=c'):After o place nodes nodes' unique' memo' r f c':=⟨h.ts,h.pre,h.vd,h.dn,le_trans h.le (Nat.add_le_add_left hc _)⟩
section
variable {a b:GDiagram} {Q:GDiagram->Option Int->Prop}
end
structure Least (n:Nat) (f:Asg->Bool) (m:Nat):Prop where
 lt:m<2^n
 yes:f (stA m)=true
 no:∀s,s<m->f (stA s)=false
structure Upd (n:Nat) (g f:Asg->Bool) (i:Nat) (t:List Bool):Prop where
 len:t.length=2^n
 at_:∀s:Nat,s<2^n->at' t (s:Int)=if s<i then g (stA s) else f (stA s)
theorem gO {α:Type} {l:List α} {x:α}:(l++[x]).length=l.length+1:=by simp
section
variable {o:List Int} {f:Asg->Bool}
end
theorem iO {α:Type} [Inhabited α] {l:List α} {a:Int} {x:α} {j:Int} (ha:0<=a/\a<l.length) (hj:0<=j):at' (aN l a x) j=if j=a then x else at' l j:=by
 obtain⟨n,rfl⟩:∃n:Nat,a=n:=⟨a.toNat,om⟩
 obtain⟨m,rfl⟩:∃n:Nat,j=n:=⟨j.toNat,om⟩
 rw[cm om]
 by_cases h:m=n
 ·rw[if_pos h,if_pos om]
 ·rw[if_neg h,if_neg om]
def kV (ls:List Int) (m:List Bool):List Bool:=ls.foldl (λm a=>aN m a true) m
theorem qd:∀(ls:List Int) (m:List Bool),(kV ls m).length=m.length
 | [],_=>rfl
 | a :: ls,m=>by rw[kV,List.foldl_cons];exact(qd ls _).trans bJ
theorem rO:∀(ls:List Int) (m:List Bool) {j:Int},(∀a∈ls,0<=a/\a<m.length)->0<=j->(at' (kV ls m) j=true↔at' m j=true\/j∈ls)
 | [],m,j,_,_=>by simp[kV]
 | a :: ls,m,j,h,hj=>by
  have ha:=h a zSm
  have ih:=rO ls (aN m a true) (j:=j) (λb hb=>by rw[bJ];exact h b (List.mem_cons_of_mem _ hb)) hj
  rw[kV,List.foldl_cons]
  show at' (kV ls (aN m a true)) j=true↔_
  rw[ih,iO ha hj,List.mem_cons]
  by_cases he:j=a
  ·rw[if_pos he];simp[he]
  ·rw[if_neg he];simp[he]
theorem zh {ls:List Int} {a:Int} {m:List Bool}:kV (ls++[a]) m=aN (kV ls m) a true:=by simp[kV]
theorem nj {α:Type} [Inhabited α] {l:List α} {j:Nat} (h:j<l.length):l.take (j+1)=l.take j++[at' l (j:Int)]:=by
 rw[List.take_add_one,List.getElem?_eq_getElem h]
 simp[at',List.getD_eq_getElem?_getD,h]
theorem ta {α:Type} [Inhabited α] {l:List α} {j:Nat} (h:j<l.length):at' l (j:Int)∈l:=by
 simp only[at',toNat_natCast,List.getD_eq_getElem?_getD,List.getElem?_eq_getElem h,Option.getD_some]
 exact List.getElem_mem h
theorem YK {α:Type} [Inhabited α] {l:List α} {x:α} (h:x∈l):∃j:Nat,j<l.length/\at' l (j:Int)=x:=by
 obtain⟨j,hj,rfl⟩:=List.mem_iff_getElem.1 h
 exact⟨j,hj,by simp[at',List.getD_eq_getElem?_getD,hj]⟩
def yY (f:GFormula) (i:Nat) (m:List Bool):List Bool:=if at' m (f.A+i)=true then kV (at' f.N (i:Int)).M m else m
def iq (f:GFormula):Nat->List Bool
 | 0=>aN (aQ (f.A+(f.N.length:Int)) false) f.Z true
 | k+1=>yY f (f.N.length-1-k) (iq f k)
section
variable {f:GFormula}
theorem kJ (g:FG f):∀k,((iq f k).length:Int)=f.A+f.N.length
 | 0=>by
  have:=g.v0
  rw[iq,bJ,pb om]
 | k+1=>by
  rw[iq,yY]
  split
  ·rw[qd];exact kJ g k
  ·exact kJ g k
theorem sA (g:FG f) {i:Nat} (hi:i<f.N.length):∀a∈(at' f.N (i:Int)).M,0<=a/\a<f.A+i:=λa ha=>by
 obtain⟨j,hj,rfl⟩:=YK ha
 exact(lm (g.node i hi)).arg j hj
structure Below (f:GFormula) (k:Nat) (m:List Bool):Prop where
 top:at' m f.Z=true
 cl:∀i:Nat,f.N.length-k<=i->i<f.N.length->at' m (f.A+i)=true->∀a∈(at' f.N (i:Int)).M,at' m a=true
theorem oI (g:FG f):∀k,k<=f.N.length->Below f k (iq f k)
 | 0,_=>by
  have:=g.v0;have:=g.top0;have:=g.top
  have hl:((aQ (f.A+(f.N.length:Int)) false).length:Int)=f.A+f.N.length:=pb om
  refine⟨?_,λi h1 h2=>om⟩
  rw[iq,iO om om,if_pos rfl]
 | k+1,hk=>by
  have ih:=oI g k om
  have hl:=kJ g k
  have v0:=g.v0
  have hi:f.N.length-1-k<f.N.length:=om
  have hin:=sA g hi
  have hin':∀a∈(at' f.N ((f.N.length-1-k:Nat):Int)).M,0<=a/\a<(iq f k).length:=λa ha=>by have:=hin a ha;omega
  rw[iq,yY]
  split
  ·rename_i hm
   refine⟨(rO _ _ hin' g.top0).2 (.inl ih.top),λi h1 h2 h3 a ha=>?_⟩
   have ha0:=sA g h2 a ha
   rw[rO _ _ hin' om] at h3 ⊢
   by_cases he:i=f.N.length-1-k
   ·subst he;exact .inr ha
   ·rcases h3 with h3 | h3
    ·exact .inl (ih.cl i om h2 h3 a ha)
    ·have:=hin _ h3;omega
  ·rename_i hm
   refine⟨ih.top,λi h1 h2 h3 a ha=>?_⟩
   by_cases he:i=f.N.length-1-k
   ·subst he;exact absurd h3 hm
   ·exact ih.cl i om h2 h3 a ha
theorem Cr (g:FG f) {Q:List Bool->Prop} (hQ:Q (iq f f.N.length)):hH f Q:=by
 have v0:=g.v0;have v24:=g.v24;have n128:=g.n128;have t0:=g.top0;have tt:=g.top
 refine⟨zRg,⟨om,om,om,om⟩,om,zRg,?_⟩
 refine⟨λy=>∃k:Nat,k<=f.N.length/\y=((f.N.length:Int)-1-k,iq f k),λy=>(y.1+1).toNat,⟨0,om,by simp[iq]⟩,?_⟩
 rintro _ ⟨k,hk,rfl⟩
 refine condT (λhc=>?_) (λhc=>?_)
 ·have ei:(f.N.length:Int)-1-k=((f.N.length-1-k:Nat):Int):=om
  have hi:f.N.length-1-k<f.N.length:=om
  have hl:=kJ g k
  have hin:=sA g hi
  rw[ei]
  refine⟨zRg,om,aJ (λhm=>⟨om,?_⟩) (λhm=>⟨zRg,⟨k+1,om,?_⟩,by dsimp only;omega⟩)⟩
  ·have ll:=(lm (g.node _ hi)).len
   refine ig (n:=(at' f.N ((f.N.length-1-k:Nat):Int)).M.length) (λj=>((j:Int),kV ((at' f.N ((f.N.length-1-k:Nat):Int)).M.take j) (iq f k))) (λy=>y.1) 0 (λi=>by dsimp only;omega) rfl (λj next hj hn=>?_) (λnext=>?_)
   ·have ha:=hin _ (ta hj)
    refine condT (λ_=>⟨om,by rw[qd];omega,zRg,?_⟩) (λhc=>absurd (show(j:Int)<_ by omega) hc)
    rw[nj hj,zh] at hn
    exact hn
   ·refine condT (λhc=>absurd hc om) (λ_=>⟨zRg,⟨k+1,om,?_⟩,by dsimp only;omega⟩)
    rw[take_length,iq,yY,if_pos hm]
    refine Prod.ext ?_ rfl
    show _=_
    simp only;omega
  ·rw[iq,yY,if_neg (by rw[hm];simp)]
   refine Prod.ext ?_ rfl
   show _=_
   simp only;omega
 ·obtain rfl:k=f.N.length:=om
  exact hQ
theorem yX {α:Type} [Inhabited α] {l:List α} {a:Int} (h:0<=a/\a<=l.length):((fe l a (l.length:Int)).length:Int)=l.length-a/\∀i:Nat,(i:Int)<l.length-a->at' (fe l a (l.length:Int)) (i:Int)=at' l (a+i):=by
 obtain⟨n,rfl⟩:∃n:Nat,a=n:=⟨a.toNat,om⟩
 refine⟨by simp[fe];omega,λi hi=>?_⟩
 rw[show(n:Int)+(i:Int)=((n+i:Nat):Int) by omega]
 simp only[at',fe,List.getD_eq_getElem?_getD,toNat_natCast]
 rw[List.getElem?_take,if_pos om,List.getElem?_drop]
theorem U2 {Q:Int->Int->Option Int->Prop} (ht:rng f.Z) (h1:jQ f≠0->Q 0 0 (some (jQ f))) (h2:FG f->∀r a,0<=r->(r=0->f.Z<f.A)->Q r a none):lD f Q:=by
 refine eV ht ?_
 by_cases h0:jQ f=0
 ·have g:=lJ.1 h0
  have v0:=g.v0;have v24:=g.v24;have n128:=g.n128
  have hl:=kJ g f.N.length
  have hb:=oI g f.N.length (le_refl _)
  obtain⟨sl,sa⟩:=yX (l:=iq f f.N.length) (a:=f.A) om
  rw[h0]
  refine aJ (λhc=>by cases hc) (λ_=>⟨_,Cr g rfl,⟨om,om,om⟩,?_⟩)
  refine bQ (n:=f.N.length) (λi (y:Int×Int×Int)=>(y.2.2=(i:Int)/\0<=y.1/\y.1<=(i:Int)/\0<=y.2.1/\y.2.1<=16*(i:Int))/\(y.1=0->∀k:Nat,k<i->at' (iq f f.N.length) (f.A+k)=false)) (λy=>y.2.2) 0 (λi y hy=>by rw[hy.1.1];omega) ⟨by dsimp only;omega,λ_ k hk=>absurd hk om⟩ ?_ ?_
  ·rintro i ⟨nn,aa,x⟩ next hi ⟨⟨hx,a1,a2,a3,a4⟩,hz⟩ hn
   dsimp only at hx a1 a2 a3 a4 hz
   subst hx
   have ll:=(lm (g.node _ hi)).len
   dsimp only
   rw[sa i om]
   refine condT (λ_=>⟨om,aJ (λhm=>⟨zRg,om,zRg,gt ⟨zRg,hn _ ⟨by dsimp only;omega,λhc=>by dsimp only at hc;omega⟩⟩⟩) (λhm=>⟨zRg,hn _ ⟨by dsimp only;omega,λhc k hk=>?_⟩⟩)⟩) (λhc=>absurd (show(i:Int)<_ by omega) hc)
   by_cases hk2:k<i
   ·exact hz hc k hk2
   ·obtain rfl:k=i:=om
    exact hm
  ·rintro⟨nn,aa,x⟩ next ⟨⟨hx,a1,a2,a3,a4⟩,hz⟩
   dsimp only at hx a1 a2 a3 a4 hz
   subst hx
   refine condT (λhc=>absurd hc om) (λ_=>h2 g nn aa a1 λhr=>?_)
   by_cases hT:f.Z<f.A
   ·exact hT
   ·have:=hz hr (f.Z-f.A).toNat (by have:=g.top;omega)
    rw[show f.A+((f.Z-f.A).toNat:Int)=f.Z by omega,hb.top] at this
    cases this
 ·have:isSome (mF (jQ f))=true:=by rw[ir];simp[h0]
  have e:mF (jQ f)=some (jQ f):=vM h0
  rw[e]
  exact aJ (λ_=>h1 h0) (λhc=>by cases hc)
theorem qD {f g:GFormula} {s:Nat} (hV:f.A=g.A):∀n,(∀i:Nat,i<n->at' f.N (i:Int)=at' g.N (i:Int))->de f s n=de g s n
 | 0,_=>by rw[de,de,hV]
 | n+1,h=>by rw[de,de,qD hV n (λi hi=>h i om),h n om]
theorem wY {f g:GFormula} {i:Nat} (hV:f.A=g.A) (h:at' f.N (i:Int)=at' g.N (i:Int)):iY f i=iY g i:=by
 unfold iY;rw[h,hV]
theorem yo {α β:Type} [Inhabited α] [Inhabited β] {l:List α} {g:α->β} {j:Nat} (h:j<l.length):at' (l.map g) (j:Int)=g (at' l (j:Int)):=by
 simp[at',List.getD_eq_getElem?_getD,h]
theorem U0 {Q:GFormula->Option Int->Prop} (g:FG f) (hQ:∀x,FG x->x.A=f.A->(∀s,FV x s=FV f s)->(∀n:Nat,n<x.N.length->∃k:Nat,k<f.N.length/\∀s,at' (de x s x.N.length) (f.A+n)=at' (de f s f.N.length) (f.A+k))->Q x none):lz f Q:=by
 have v0:=g.v0;have v24:=g.v24;have n128:=g.n128;have t0:=g.top0;have tt:=g.top
 have hl:=kJ g f.N.length
 have hb:=oI g f.N.length (le_refl _)
 obtain⟨sl,sa⟩:=yX (l:=iq f f.N.length) (a:=f.A) om
 have hrl:((aQ (f.A+(f.N.length:Int)) (0:Int)).length:Int)=f.A+f.N.length:=pb om
 refine eV zRg ?_
 rw[lJ.2 g]
 refine aJ (λhc=>by cases hc) (λ_=>⟨zRg,⟨om,om,om,om⟩,?_⟩)
 refine bQ (n:=f.A.toNat) (λi (y:Int×List Int)=>(y.1=(i:Int)/\(y.2.length:Int)=f.A+f.N.length)/\∀v:Nat,v<i->at' y.2 (v:Int)=(v:Int)) (λy=>y.1) 0 (λi y hy=>by rw[hy.1.1];omega) ⟨⟨rfl,hrl⟩,λv hv=>absurd hv om⟩ ?_ ?_
 ·rintro i ⟨x,to⟩ next hi ⟨⟨hx,hl1⟩,hI⟩ hn
  dsimp only at hx hl1 hI
  subst hx
  refine condT (λ_=>⟨om,zRg,hn _ ⟨⟨by dsimp only;omega,by dsimp only;rw[bJ];exact hl1⟩,λv hv=>?_⟩⟩) (λhc=>absurd (show(i:Int)<f.A by omega) hc)
  dsimp only
  rw[cm om]
  split
  ·rename_i he;rw[he]
  ·exact hI v om
 rintro⟨x,to0⟩ next ⟨⟨hx,hl1⟩,hI⟩
 dsimp only at hx hl1 hI
 subst hx
 refine condT (λhc=>absurd hc om) (λ_=>⟨_,Cr g rfl,⟨om,om,om⟩,?_⟩)
 refine bQ (n:=f.N.length) (λi (y:Int×List Int×List GNode)=>(y.1=(i:Int)/\(y.2.1.length:Int)=f.A+f.N.length/\y.2.2.length<=i)/\(∀v:Nat,(v:Int)<f.A->at' y.2.1 (v:Int)=(v:Int))/\(∀n:Nat,n<y.2.2.length->iY ⟨f.A,y.2.2,0⟩ n=0/\∃k:Nat,k<f.N.length/\∀s,at' (de ⟨f.A,y.2.2,0⟩ s y.2.2.length) (f.A+n)=at' (de f s f.N.length) (f.A+k))/\
   ∀k:Nat,k<i->at' (iq f f.N.length) (f.A+k)=true->(0<=at' y.2.1 (f.A+k)/\at' y.2.1 (f.A+k)<f.A+y.2.2.length)/\∀s,at' (de ⟨f.A,y.2.2,0⟩ s y.2.2.length) (at' y.2.1 (f.A+k))=at' (de f s f.N.length) (f.A+k)) (λy=>y.1) 0
  (λi y hy=>by rw[hy.1.1];omega) ⟨⟨rfl,hl1,by simp⟩,λv hv=>hI v om,λn hn=>by simp at hn,λk hk=>absurd hk om⟩ ?_ ?_
 ·rintro i ⟨x,to,x2⟩ next2 hi ⟨⟨hx,hl2,hx2⟩,hV,hN,hK⟩ hn
  dsimp only at hx hl2 hx2 hV hN hK
  subst hx
  have ng:=lm (g.node i hi)
  have hin:=sA g hi
  dsimp only
  rw[sa i om]
  refine condT (λ_=>⟨om,aJ (λhm=>?_) (λhm=>⟨om,?_⟩)⟩) (λhc=>absurd (show(i:Int)<_ by omega) hc)
  ·have hm':at' (iq f f.N.length) (f.A+i)=false:=by simpa using hm
   refine⟨zRg,hn _ ⟨⟨by dsimp only;omega,hl2,by dsimp only;omega⟩,hV,hN,λk hk hmk=>?_⟩⟩
   by_cases hk2:k<i
   ·exact hK k hk2 hmk
   ·obtain rfl:k=i:=om
    rw[hm'] at hmk;cases hmk
  ·have hm':at' (iq f f.N.length) (f.A+i)=true:=by simpa using hm
   have ll:=ng.len
   have hcl:=hb.cl i om hi hm'
   have harg:∀a∈(at' f.N (i:Int)).M,(0<=at' to a/\at' to a<f.A+x2.length)/\∀s,at' (de ⟨f.A,x2,0⟩ s x2.length) (at' to a)=at' (de f s i) a:=λa ha=>by
    have h3:=hin a ha
    by_cases hv:a<f.A
    ·obtain⟨v,rfl⟩:∃v:Nat,a=v:=⟨a.toNat,om⟩
     rw[hV v hv]
     refine⟨om,λs=>?_⟩
     rw[kO (f:=⟨f.A,x2,0⟩) om hv,kO om hv]
    ·obtain⟨k,rfl⟩:∃k:Nat,a=f.A+k:=⟨(a-f.A).toNat,om⟩
     obtain⟨q1,q2⟩:=hK k om (hcl _ ha)
     refine⟨q1,λs=>?_⟩
     rw[q2,kN (m:=i) om om f.N.length om]
   refine ig (n:=(at' f.N (i:Int)).M.length) (λj=>((j:Int),((at' f.N (i:Int)).M.take j).map λa=>at' to a)) (λy=>y.1) 0 (λj=>by dsimp only;omega) rfl (λj next3 hj hn3=>?_) (λnext3=>?_)
   ·have h3:=hin _ (ta hj)
    dsimp only
    refine condT (λ_=>⟨om,om,by rw[gO,length_map,List.length_take];omega,zRg,?_⟩) (λhc=>absurd (show(j:Int)<_ by omega) hc)
    rw[nj hj,map_append] at hn3
    exact hn3
   ·refine condT (λhc=>absurd hc om) (λ_=>?_)
    dsimp only
    rw[take_length]
    generalize hxn:(⟨(at' f.N (i:Int)).F,(at' f.N (i:Int)).K,(at' f.N (i:Int)).M.map λa=>at' to a⟩:GNode)=xn
    have hlast:at' (x2++[xn]) (x2.length:Int)=xn:=gA
    have hold:∀n:Nat,n<x2.length->at' (x2++[xn]) (n:Int)=at' x2 (n:Int):=λn hn=>fD om om
    have hvo:∀s n,n<=x2.length->de ⟨f.A,x2++[xn],0⟩ s n=de ⟨f.A,x2,0⟩ s n:=λs n hn=>qD (f:=⟨f.A,x2++[xn],0⟩) (g:=⟨f.A,x2,0⟩) rfl n λk hk=>hold k om
    have hval:∀s,at' (de ⟨f.A,x2++[xn],0⟩ s (x2.length+1)) (f.A+x2.length)=at' (de f s f.N.length) (f.A+i):=λs=>by
     have e:=rI (f:=⟨f.A,x2++[xn],0⟩) (s:=s) (i:=x2.length) v0 zSm
     rw[show(⟨f.A,x2++[xn],0⟩:GFormula).N.length=x2.length+1 from gO] at e
     rw[e,rI v0 hi]
     show lZ (at' (x2++[xn]) (x2.length:Int)) _=_
     rw[hlast,hvo s _ (le_refl _),<-hxn]
     unfold lZ
     have ec:cnt ⟨(at' f.N (i:Int)).F,(at' f.N (i:Int)).K,(at' f.N (i:Int)).M.map λa=>at' to a⟩ (de ⟨f.A,x2,0⟩ s x2.length) (at' f.N (i:Int)).M.length=cnt (at' f.N (i:Int)) (de f s i) (at' f.N (i:Int)).M.length:=by
      have:∀j,j<=(at' f.N (i:Int)).M.length->cnt ⟨(at' f.N (i:Int)).F,(at' f.N (i:Int)).K,(at' f.N (i:Int)).M.map λa=>at' to a⟩ (de ⟨f.A,x2,0⟩ s x2.length) j=cnt (at' f.N (i:Int)) (de f s i) j:=λj=>by
       induction j with
       | zero=>intro _;rfl
       | succ j ih=>
        intro hj
        rw[cnt,cnt,ih om]
        simp only
        rw[yo om,(harg _ (ta om)).2 s]
      exact this _ (le_refl _)
     simp only[length_map]
     rw[ec]
     unfold pO
     simp only[length_map]
    refine⟨zRg,zRg,om,by rw[gO];omega,zRg,hn _ ⟨⟨by dsimp only;omega,by dsimp only;rw[bJ];exact hl2,by dsimp only;rw[gO];omega⟩,λv hv=>?_,λn hn2=>?_,λk hk hmk=>?_⟩⟩
    ·dsimp only
     rw[iO om om,if_neg om]
     exact hV v hv
    ·dsimp only at hn2 ⊢
     rw[gO] at hn2
     by_cases hlt:n<x2.length
     ·rw[wY (f:=⟨f.A,x2++[xn],0⟩) (g:=⟨f.A,x2,0⟩) rfl (hold n hlt),gO]
      obtain⟨q1,k,q2,q3⟩:=hN n hlt
      refine⟨q1,k,q2,λs=>?_⟩
      rw[kN (m:=x2.length) om (by show _<(f.A.toNat:Int)+_;omega) (x2.length+1) om,hvo s _ (le_refl _)]
      exact q3 s
     ·obtain rfl:n=x2.length:=om
      refine⟨?_,i,hi,λs=>by rw[gO];exact hval s⟩
      have h0:=g.node i hi
      unfold iY at h0 ⊢
      simp only[hlast]
      rw[<-hxn]
      simp only[length_map]
      split at h0
      ·cases h0
      rename_i c1
      split at h0
      ·cases h0
      rename_i c2
      split at h0
      ·cases h0
      rw[if_neg c1,if_neg c2,if_neg]
      ·exact h0
      ·rintro⟨j,hj,hc⟩
       rw[yo hj] at hc
       have:=(harg _ (ta hj)).1
       omega
    ·dsimp only
     rw[iO om om,gO]
     by_cases hki:k=i
     ·subst hki
      rw[if_pos rfl]
      exact⟨om,hval⟩
     ·rw[if_neg om]
      obtain⟨q1,q2⟩:=hK k om hmk
      refine⟨om,λs=>?_⟩
      rw[kN (m:=x2.length) q1.1 (by show _<(f.A.toNat:Int)+_;omega) (x2.length+1) om,hvo s _ (le_refl _)]
      exact q2 s
 ·rintro⟨x,to,x2⟩ next2 ⟨⟨hx,hl2,hx2⟩,hV,hN,hK⟩
  dsimp only at hx hl2 hx2 hV hN hK
  subst hx
  have hT:(0<=at' to f.Z/\at' to f.Z<f.A+x2.length)/\∀s,at' (de ⟨f.A,x2,0⟩ s x2.length) (at' to f.Z)=at' (de f s f.N.length) f.Z:=by
   by_cases hv:f.Z<f.A
   ·obtain⟨v,hv'⟩:∃v:Nat,f.Z=v:=⟨f.Z.toNat,om⟩
    rw[hv'] at hv ⊢
    rw[hV v hv]
    refine⟨om,λs=>?_⟩
    rw[kO (f:=⟨f.A,x2,0⟩) om hv,kO om hv]
   ·obtain⟨k,hk⟩:∃k:Nat,f.Z=f.A+k:=⟨(f.Z-f.A).toNat,om⟩
    have hbt:=hb.top
    rw[hk] at hbt ⊢
    exact hK k om hbt
  refine condT (λhc=>absurd hc om) (λ_=>⟨om,hQ _ ⟨v0,v24,by show x2.length<=128;omega,λn hn=>?_,hT.1.1,hT.1.2⟩ rfl (λs=>?_) λn hn=>?_⟩)
  ·rw[wY (f:=⟨f.A,x2,at' to f.Z⟩) (g:=⟨f.A,x2,0⟩) rfl rfl]
   exact(hN n hn).1
  ·show at' (de ⟨f.A,x2,at' to f.Z⟩ s x2.length) (at' to f.Z)=_
   rw[qD (f:=⟨f.A,x2,at' to f.Z⟩) (g:=⟨f.A,x2,0⟩) rfl _ (λ_ _=>rfl),hT.2 s]
   rfl
  ·obtain⟨_,k,q2,q3⟩:=hN n hn
   refine⟨k,q2,λs=>?_⟩
   show at' (de ⟨f.A,x2,at' to f.Z⟩ s x2.length) _=_
   rw[qD (f:=⟨f.A,x2,at' to f.Z⟩) (g:=⟨f.A,x2,0⟩) rfl _ (λ_ _=>rfl)]
   exact q3 s
end
theorem H5 {σ:Type} {n:Nat} (st:Nat->σ) (ix:σ->Int) (c:Int) (hix:∀i,i<=n->ix (st i)=i+c) {x0:σ} {body:σ->(σ->Prop)->Prop} (h0:x0=st 0)
  (hs:∀i (next:σ->Prop),i<n->next (st (i+1))->body (st i) next) (he:∀(next:σ->Prop),body (st n) next):aH x0 body:=by
 refine⟨λy=>∃i,i<=n/\y=st i,λy=>n-(ix y-c).toNat,⟨0,zero_le _,h0⟩,?_⟩
 rintro _ ⟨i,hi,rfl⟩
 rcases lt_or_ge i n with h | h
 ·refine hs i _ h ⟨⟨i+1,h,rfl⟩,?_⟩
  have h1:=hix i hi
  have h2:=hix (i+1) h
  dsimp only
  rw[h1,h2]
  omega
 ·obtain rfl:i=n:=om
  exact he _
theorem A7 {σ τ:Type} {n:Nat} (Inv:Nat->σ->Prop) (ix:σ->Int) (c:Int) (hix:∀i y,Inv i y->ix y=i+c) {x0:σ} {B:τ->σ->(σ->Prop)->Prop} (h0:Inv 0 x0)
  (hs:∀i x,i<n->Inv i x->∃y,Inv (i+1) y/\∀(Q:τ) (next:σ->Prop),next y->B Q x next):∃y,Inv n y/\∀Q:τ,(∀next,B Q y next)->aH x0 (B Q):=by
 have key:∀k,k<=n->∃st:Nat->σ,st 0=x0/\(∀i,i<=k->Inv i (st i))/\∀i,i<k->∀(Q:τ) (next:σ->Prop),next (st (i+1))->B Q (st i) next:=λk=>by
  induction k with
  | zero=>exact λ_=>⟨λ_=>x0,rfl,λi hi=>(by obtain rfl:i=0:=om;exact h0),λi hi=>absurd hi om⟩
  | succ k ih=>
   intro hk
   obtain⟨st,a,b,d⟩:=ih om
   obtain⟨y,hy,w⟩:=hs k (st k) om (b k (le_refl _))
   refine⟨λi=>if i<=k then st i else y,by simp[a],λi hi=>?_,λi hi Q next hn=>?_⟩
   ·by_cases h1:i<=k
    ·simp only[h1,if_true];exact b i h1
    ·obtain rfl:i=k+1:=om
     simp only[h1,if_false];exact hy
   ·by_cases h1:i=k
    ·subst h1
     simp only[le_refl,if_true]
     simp only[show ¬i+1<=i by omega,if_false] at hn
     exact w Q next hn
    ·simp only[show i<=k by omega,if_true]
     simp only[show i+1<=k by omega,if_true] at hn
     exact d i om Q next hn
 obtain⟨st,a,b,d⟩:=key n (le_refl _)
 exact⟨st n,b n (le_refl _),λQ he=>H5 st ix c (λi hi=>hix i _ (b i hi)) a.symm (λi next hi hn=>d i hi Q next hn) he⟩
def Jw (M:Int->Int->List Int->List Int->List GDNode->GMap Int->GMap Int->(List GDNode->GMap Int->GMap Int->Int->Prop)->Prop) (g:Bool->Bool->Bool):Prop:=
 ∀ {o place:List Int} {nodes:List GDNode} {unique memo:GMap Int},TS o place nodes unique memo->o.length<=24->nodes.length<=1099478073344->∀ {a b:Int},Vd nodes a->Vd nodes b->
  ∃nodes' unique' memo' r,After o place nodes nodes' unique' memo' r (λσ=>g (dn nodes a σ) (dn nodes b σ)) 33554432/\
   ∀Q:List GDNode->GMap Int->GMap Int->Int->Prop,Q nodes' unique' memo' r->M a b o place nodes unique memo Q
theorem HN:Jw dx (λx y=>x && y):=by
 intro o place nodes unique memo h hn hb a b ha hb'
 have h1:=qs hn
 obtain⟨n1,u1,m1,r,ha,w⟩:=abw h om ha hb'
 exact⟨n1,u1,m1,r,ha.mono om,w⟩
theorem RM:Jw dK (λx y=>x || y):=by
 intro o place nodes unique memo h hn hb a b ha hb'
 have h1:=qs hn
 obtain⟨n1,u1,m1,r,ha,w⟩:=acs h om ha hb'
 exact⟨n1,u1,m1,r,ha.mono om,w⟩
theorem HM:Jw dv (λx y=>x != y):=by
 intro o place nodes unique memo h hn hb a b ha hb'
 have h1:=qs hn
 obtain⟨n1,u1,m1,r,ha,w⟩:=abt h om ha hb'
 exact⟨n1,u1,m1,r,ha.mono om,w⟩
def YJ (M:Int->Int->List Int->List Int->List GDNode->GMap Int->GMap Int->(List GDNode->GMap Int->GMap Int->Int->Prop)->Prop) (refs:List Int) (first:Int) (order:List Int) (place:List Int) (nodes:List GDNode) (unique:GMap Int) (memo:GMap Int) (Q:List GDNode->GMap Int->GMap Int->Int->Prop):Prop:=
 aH (σ:=Int×Int×(List GDNode)×(GMap Int)×(GMap Int)) (first,0,nodes,unique,memo) λ⟨first1,x,x1,x2,x3⟩ next1=>
  ac (decide (x<(refs.length:Int)))
   (((0:Int)<=x/\x<(refs.length:Int))/\
   M first1 (at' refs x) order place x1 x2 x3 λu u1 u2 first2=>
   rng (x+1)/\
   next1 (first2,(x+1),u,u1,u2))
   (Q x1 x2 x3 first1)
def rn (g:Bool->Bool->Bool) (c:Bool) (b:Nat->Bool):Nat->Bool
 | 0=>c
 | i+1=>g (rn g c b i) (b i)
section
variable {o place:List Int} {nodes:List GDNode} {unique memo:GMap Int}
theorem AY {M:Int->Int->List Int->List Int->List GDNode->GMap Int->GMap Int->(List GDNode->GMap Int->GMap Int->Int->Prop)->Prop} {g:Bool->Bool->Bool} (hM:Jw M g) (h:TS o place nodes unique memo) (hn:o.length<=24) {refs:List Int} {first:Int} {c:Bool} (hl:refs.length<=16)
  (hb:nodes.length<=549755813888) (hf:Vd nodes first) (hc:dn nodes first=λ_=>c) (hr:∀j:Nat,j<refs.length->Vd nodes (at' refs (j:Int))) :
  ∃nodes' unique' memo' r,After o place nodes nodes' unique' memo' r (λσ=>rn g c (λj=>dn nodes (at' refs (j:Int)) σ) refs.length) 4294967296/\
   ∀Q:List GDNode->GMap Int->GMap Int->Int->Prop,Q nodes' unique' memo' r->YJ M refs first o place nodes unique memo Q:=by
 obtain⟨⟨r,x,n1,u1,m1⟩,⟨⟨hx,hT⟩,hP,hV,hD,hL⟩,w⟩:=A7 (τ:=List GDNode->GMap Int->GMap Int->Int->Prop) (n:=refs.length) (x0:=(first,0,nodes,unique,memo))
  (λi (y:Int×Int×(List GDNode)×(GMap Int)×(GMap Int))=>(y.2.1=(i:Int)/\TS o place y.2.2.1 y.2.2.2.1 y.2.2.2.2)/\Pre nodes y.2.2.1/\Vd y.2.2.1 y.1/\dn y.2.2.1 y.1=(λσ=>rn g c (λj=>dn nodes (at' refs (j:Int)) σ) i)/\y.2.2.1.length<=nodes.length+33554432*i)
  (λy=>y.2.1) 0 (λi y hy=>by rw[hy.1.1];omega)
  (B:=λQ=>λ⟨first1,x,x1,x2,x3⟩ next1=>
  ac (decide (x<(refs.length:Int)))
   (((0:Int)<=x/\x<(refs.length:Int))/\
   M first1 (at' refs x) o place x1 x2 x3 λu u1 u2 first2=>
   rng (x+1)/\
   next1 (first2,(x+1),u,u1,u2))
   (Q x1 x2 x3 first1))
  ⟨⟨rfl,h⟩,Pre.refl _,hf,hc,by dsimp only;omega⟩ (by
   rintro i ⟨r,x,n1,u1,m1⟩ hi ⟨⟨hx,hT⟩,hP,hV,hD,hL⟩
   dsimp only at hx hT hP hV hD hL
   subst hx
   have hri:=hr i hi
   have hi16:i<16:=lt_of_lt_of_le hi hl
   have hL2:n1.length<=550292684800:=le_trans hL om
   obtain⟨n2,u2,m2,r2,a2,w2⟩:=hM hT hn (le_trans hL2 (by decide)) hV (hri.pre hP)
   have l2:=a2.le
   refine⟨(r2,(i:Int)+1,n2,u2,m2),⟨⟨by dsimp only;omega,a2.ts⟩,hP.trans a2.pre,a2.vd,?_,le_trans l2 om⟩,λQ next hn=>condT (λ_=>⟨om,w2 _ ⟨zRg,hn⟩⟩) (λhc=>absurd (show(i:Int)<refs.length by omega) hc)⟩
   dsimp only
   rw[a2.dn,hD,fM hri hP]
   rfl)
 dsimp only at hx hT hP hV hD hL
 subst hx
 exact⟨n1,u1,m1,r,⟨hT,hP,hV,hD,le_trans hL om⟩,λQ hQ=>w Q λnext=>condT (λhc=>absurd hc om) (λ_=>hQ)⟩
def jP (b:Nat->Bool):Nat->Nat
 | 0=>0
 | i+1=>jP b i+(if b i=true then 1 else 0)
theorem Cm {b:Nat->Bool}:∀i,jP b i<=i
 | 0=>le_refl _
 | i+1=>by have:=Cm (b:=b) i;rw[jP];split<;>omega
theorem zS {b:Nat->Bool}:∀i,rn (λx y=>x && y) true b i=decide (jP b i=i)
 | 0=>rfl
 | i+1=>by
  have:=Cm (b:=b) i
  rw[rn,zS i,jP]
  cases hb:b i
  ·rw[Bool.and_false,if_neg zSm];exact(decide_eq_false om).symm
  ·rw[Bool.and_true,if_pos rfl];exact decide_eq_decide.2 om
theorem Cf {b:Nat->Bool}:∀i,rn (λx y=>x || y) false b i=decide (0<jP b i)
 | 0=>rfl
 | i+1=>by
  rw[rn,Cf i,jP]
  cases hb:b i
  ·rw[Bool.or_false,if_neg zSm];rfl
  ·rw[Bool.or_true,if_pos rfl];exact(decide_eq_true om).symm
theorem zR {b:Nat->Bool}:∀i,rn (λx y=>x != y) false b i=decide (jP b i % 2=1)
 | 0=>rfl
 | i+1=>by
  rw[rn,zR i,jP]
  cases hb:b i
  ·rw[if_neg zSm,Nat.add_zero];simp
  ·rw[if_pos rfl]
   rcases Nat.mod_two_eq_zero_or_one (jP b i) with h1 | h1
   ·rw[decide_eq_false om,decide_eq_true om];rfl
   ·rw[decide_eq_true h1,decide_eq_false om];rfl
end
section
variable {N:List GDNode}
end
section
variable {o:List Int} {f:Asg->Bool}
end
theorem z_ {x:GNode} {v:List Bool}:∀j,cnt x v j=jP (λk=>at' v (at' x.M (k:Int))) j
 | 0=>rfl
 | j+1=>by rw[cnt,jP,z_ j]
theorem vS {b c:Nat->Bool}:∀j,(∀k,k<j->b k=c k)->jP b j=jP c j
 | 0,_=>rfl
 | j+1,h=>by rw[jP,jP,vS j (λk hk=>h k om),h j om]
section
variable {o place:List Int} {nodes:List GDNode} {unique memo:GMap Int}
structure Need (nodes:List GDNode) (need:List Int) (k:Nat) (lo:Nat) (a b:Asg->Nat):Prop where
 len:need.length=k+1
 vd:∀m:Nat,m<=k->Vd nodes (at' need (m:Int))
 dn:∀m:Nat,m<=k->dn nodes (at' need (m:Int))=λσ=>decide (m<=(if m<=lo then a σ else b σ))
theorem C6 {nodes':List GDNode} {need:List Int} {k lo:Nat} {a b:Asg->Nat} {c:Asg->Bool} {r:Int} (h:Need nodes need k (lo+1) a b) (hlo:lo+1<=k) (hp:Pre nodes nodes') (hv:Vd nodes' r)
  (hab:∀σ,b σ=a σ+(if c σ=true then 1 else 0)) (hd:dn nodes' r=λσ=>bif c σ then dn nodes (at' need (lo:Int)) σ else dn nodes (at' need ((lo+1:Nat):Int)) σ):Need nodes' (aN need ((lo+1:Nat):Int) r) k lo a b:=by
 have hl:=h.len
 refine⟨by rw[bJ];exact hl,λm hm=>?_,λm hm=>?_⟩
 ·rw[cm om]
  split
  ·exact hv
  ·exact(h.vd m hm).pre hp
 ·rw[cm om]
  by_cases he:m=lo+1
  ·subst he
   rw[if_pos rfl,hd,h.dn lo om,h.dn (lo+1) hm]
   funext σ
   dsimp only
   rw[if_pos (by omega:lo<=lo+1),if_pos (le_refl (lo+1)),if_neg (by omega:¬lo+1<=lo),hab]
   cases c σ
   ·simp
   ·simp
  ·rw[if_neg he,fM (h.vd m hm) hp,h.dn m hm]
   funext σ
   by_cases h1:m<=lo
   ·rw[if_pos om,if_pos h1]
   ·rw[if_neg om,if_neg h1]
theorem Rl (h:TS o place nodes unique memo) (hn:o.length<=24) {refs:List Int} {k:Nat} (hk:k<=16) (hl:refs.length<=16) (hb:nodes.length<=549755813888)
  (hr:∀j:Nat,j<refs.length->Vd nodes (at' refs (j:Int))) :
  ∃nodes' unique' memo' r,After o place nodes nodes' unique' memo' r (λσ=>decide (k<=jP (λj=>dn nodes (at' refs (j:Int)) σ) refs.length)) 4294967296/\
   ∀Q:List GDNode->GMap Int->GMap Int->Int->Prop,Q nodes' unique' memo' r->iH refs (k:Int) o place nodes unique memo Q:=by
 have w12:=qs hn
 have hrl:((aQ ((k:Int)+1) (0:Int)).length:Int)=k+1:=pb om
 have start:Need nodes (aN (aQ ((k:Int)+1) 0) 0 1) k k (λσ=>jP (λj=>dn nodes (at' refs (j:Int)) σ) 0) (λσ=>jP (λj=>dn nodes (at' refs (j:Int)) σ) 0):=by
  have e:∀m:Nat,m<=k->at' (aN (aQ ((k:Int)+1) (0:Int)) 0 1) (m:Int)=if m=0 then 1 else 0:=λm hm=>by
   have:=cm (l:=aQ ((k:Int)+1) (0:Int)) (i:=0) (x:=1) (j:=m) om
   rw[show((0:Nat):Int)=0 from rfl] at this
   rw[this]
   by_cases h0:m=0
   ·rw[if_pos h0,if_pos h0]
   ·rw[if_neg h0,if_neg h0,RA om]
  refine⟨by rw[bJ];omega,λm hm=>?_,λm hm=>?_⟩
  ·rw[e m hm];split
   ·exact vd1
   ·exact vd0
  ·rw[e m hm]
   by_cases h0:m=0
   ·subst h0;rw[if_pos rfl,dn1];rfl
   ·rw[if_neg h0,dn0];funext σ;simp[jP,h0]
 obtain⟨⟨x,need,n1,u1,m1⟩,⟨⟨hx,hT⟩,hP,hN,hL⟩,w⟩:=A7 (τ:=List GDNode->GMap Int->GMap Int->Int->Prop) (n:=refs.length) (x0:=((0:Int),aN (aQ ((k:Int)+1) 0) 0 1,nodes,unique,memo))
  (λi (y:Int×List Int×(List GDNode)×(GMap Int)×(GMap Int))=>(y.1=(i:Int)/\TS o place y.2.2.1 y.2.2.2.1 y.2.2.2.2)/\Pre nodes y.2.2.1/\Need y.2.2.1 y.2.1 k k (λσ=>jP (λj=>dn nodes (at' refs (j:Int)) σ) i) (λσ=>jP (λj=>dn nodes (at' refs (j:Int)) σ) i)/\y.2.2.1.length<=nodes.length+268435456*i)
  (λy=>y.1) 0 (λi y hy=>by rw[hy.1.1];omega)
  (B:=λQ=>λ⟨x,need,x1,x2,x3⟩ next1=>
  ac (decide (x<(refs.length:Int)))
   (((0:Int)<=x/\x<(refs.length:Int))/\
   aH (σ:=Int×(List Int)×(List GDNode)×(GMap Int)×(GMap Int)) ((k:Int),need,x1,x2,x3) λ⟨j,need1,x4,x5,x6⟩ next2=>
    ac (decide (0<j))
     (rng (j-1)/\
     ((0:Int)<=(j-1)/\(j-1)<(need1.length:Int))/\
     ((0:Int)<=j/\j<(need1.length:Int))/\
     ∃u u1 u2 r,(∃fu,an fu (at' refs x) (at' need1 (j-1)) (at' need1 j) o place x4 x5 x6 λy1 y2 y3 y4=>y1=u/\y2=u1/\y3=u2/\y4=r)/\
     ((0:Int)<=j/\j<(need1.length:Int))/\
     rng (j-1)/\
     next2 ((j-1),(aN need1 j r),u,u1,u2))
     (rng (x+1)/\
     next1 ((x+1),need1,x4,x5,x6)))
   (((0:Int)<=(k:Int)/\(k:Int)<(need.length:Int))/\
   Q x1 x2 x3 (at' need (k:Int))))
  ⟨⟨rfl,h⟩,Pre.refl _,start,by dsimp only;omega⟩ (by
   rintro i ⟨x,need,n1,u1,m1⟩ hi ⟨⟨hx,hT⟩,hP,hN,hL⟩
   dsimp only at hx hT hP hN hL
   subst hx
   have hri:=hr i hi
   have hi16:i<16:=lt_of_lt_of_le hi hl
   have hL2:n1.length<=554050781184:=le_trans hL om
   obtain⟨⟨j,need2,n2,u2,m2⟩,⟨⟨hj,hT2⟩,hP2,hN2,hL3⟩,w2⟩:=A7 (τ:=Int×(List Int)×(List GDNode)×(GMap Int)×(GMap Int)->Prop) (n:=k) (x0:=((k:Int),need,n1,u1,m1))
    (λa (y:Int×List Int×(List GDNode)×(GMap Int)×(GMap Int))=>(y.1=(k:Int)-a/\TS o place y.2.2.1 y.2.2.2.1 y.2.2.2.2)/\Pre n1 y.2.2.1/\Need y.2.2.1 y.2.1 k (k-a) (λσ=>jP (λj=>dn nodes (at' refs (j:Int)) σ) i) (λσ=>jP (λj=>dn nodes (at' refs (j:Int)) σ) (i+1))/\y.2.2.1.length<=n1.length+16777216*a)
    (λy=>-y.1) (-(k:Int)) (λa y hy=>by rw[hy.1.1];omega)
    (B:=λN2=>λ⟨j,need1,x4,x5,x6⟩ next2=>
    ac (decide (0<j))
     (rng (j-1)/\
     ((0:Int)<=(j-1)/\(j-1)<(need1.length:Int))/\
     ((0:Int)<=j/\j<(need1.length:Int))/\
     ∃u u1 u2 r,(∃fu,an fu (at' refs (i:Int)) (at' need1 (j-1)) (at' need1 j) o place x4 x5 x6 λy1 y2 y3 y4=>y1=u/\y2=u1/\y3=u2/\y4=r)/\
     ((0:Int)<=j/\j<(need1.length:Int))/\
     rng (j-1)/\
     next2 ((j-1),(aN need1 j r),u,u1,u2))
     (rng ((i:Int)+1)/\
     N2 (((i:Int)+1),need1,x4,x5,x6)))
    ⟨⟨by simp,hT⟩,Pre.refl _,⟨hN.len,hN.vd,λm hm=>by
     have:=hN.dn m hm
     rw[this];funext σ
     rw[if_pos hm,if_pos om]⟩,by dsimp only;omega⟩ (by
     rintro a ⟨j,need2,n2,u2,m2⟩ ha ⟨⟨hj,hT2⟩,hP2,hN2,hL3⟩
     dsimp only at hj hT2 hP2 hN2 hL3
     obtain⟨lo,hlo⟩:∃lo,k-a=lo+1:=⟨k-a-1,om⟩
     obtain rfl:j=((lo+1:Nat):Int):=om
     rw[hlo] at hN2
     have hlo2:lo+1<=k:=om
     have e1:((lo+1:Nat):Int)-1=(lo:Int):=om
     have hl2:=hN2.len
     obtain⟨n3,u3,m3,r3,a3,w3⟩:=oW hT2 (le_trans (Nat.add_le_add hL3 w12) om) ((hri.pre hP).pre hP2) (hN2.vd lo om) (hN2.vd (lo+1) hlo2)
     have l3:=a3.le
     refine⟨((lo:Int),aN need2 ((lo+1:Nat):Int) r3,n3,u3,m3),⟨⟨by dsimp only;omega,a3.ts⟩,hP2.trans a3.pre,?_,le_trans l3 om⟩,λN2 next hn=>condT (λ_=>?_) (λhc=>absurd (show(0:Int)<_ by omega) hc)⟩
     ·dsimp only
      rw[show k-(a+1)=lo by omega]
      exact C6 hN2 (c:=dn nodes (at' refs (i:Int))) hlo2 a3.pre a3.vd (λσ=>rfl) (by rw[a3.dn,fM (hri.pre hP) hP2,fM hri hP])
     ·rw[e1]
      exact⟨zRg,om,om,n3,u3,m3,r3,w3 _ ⟨rfl,rfl,rfl,rfl⟩,om,zRg,hn⟩)
   dsimp only at hj hT2 hP2 hN2 hL3
   have hL4:n2.length<=n1.length+268435456:=le_trans hL3 om
   refine⟨((i:Int)+1,need2,n2,u2,m2),⟨⟨by dsimp only;omega,hT2⟩,hP.trans hP2,⟨hN2.len,hN2.vd,λm hm=>?_⟩,le_trans hL4 om⟩,λQ next hn=>condT (λ_=>⟨om,w2 _ λnext2=>condT (λhc=>absurd hc om) (λ_=>⟨zRg,hn⟩)⟩) (λhc=>absurd (show(i:Int)<refs.length by omega) hc)⟩
   rw[hN2.dn m hm]
   funext σ
   rw[if_pos hm]
   by_cases h0:m=0
   ·subst h0;simp
   ·rw[if_neg om])
 dsimp only at hx hT hP hN hL
 subst hx
 have hrl2:=hN.len
 refine⟨n1,u1,m1,at' need (k:Int),⟨hT,hP,hN.vd k (le_refl _),?_,le_trans hL om⟩,λQ hQ=>⟨zRg,⟨om,om,om,om⟩,om,w Q λnext=>condT (λhc=>absurd hc om) (λ_=>⟨om,hQ⟩)⟩⟩
 rw[hN.dn k (le_refl _)]
 funext σ
 rw[if_pos (le_refl _)]
theorem HV {f:GFormula} {i:Nat} (h:iY f i=0):((at' f.N (i:Int)).F=0->(at' f.N (i:Int)).K=0\/(at' f.N (i:Int)).K=1)/\((at' f.N (i:Int)).F=4->1<=(at' f.N (i:Int)).K/\(at' f.N (i:Int)).K<=((at' f.N (i:Int)).M.length:Int)):=by
 unfold iY at h
 split at h
 ·cases h
 split at h
 ·cases h
 split at h
 ·cases h
 split at h
 ·split at h
  ·cases h
  ·exact⟨λ_=>om,λhc=>om⟩
 split at h
 ·split at h
  ·cases h
  ·exact⟨λhc=>om,λ_=>om⟩
 ·exact⟨λhc=>om,λhc=>om⟩
theorem R7 (h:TS o place nodes unique memo) (hn:o.length<=24) {x:GNode} {refs:List Int} {V:Asg->List Bool} (hk:0<=x.F/\x.F<=5) (hK:(x.F=0->x.K=0\/x.K=1)/\(x.F=4->1<=x.K/\x.K<=(x.M.length:Int)))
  (ha:mY x.F x.M.length=true) (hl:refs.length=x.M.length) (h16:x.M.length<=16) (hb:nodes.length<=549755813888) (hr:∀j:Nat,j<refs.length->Vd nodes (at' refs (j:Int))/\dn nodes (at' refs (j:Int))=λσ=>at' (V σ) (at' x.M (j:Int))) :
  ∃nodes' unique' memo' r,After o place nodes nodes' unique' memo' r (λσ=>lZ x (V σ)) 4294967296/\
   ∀Q:List GDNode->GMap Int->GMap Int->Int->Prop,Q nodes' unique' memo' r->fY x refs o place nodes unique memo Q:=by
 have w12:=qs hn
 have hc:∀σ,jP (λj=>dn nodes (at' refs (j:Int)) σ) refs.length=cnt x (V σ) x.M.length:=λσ=>by
  rw[z_,hl]
  exact vS _ λj hj=>by rw[(hr j om).2]
 have hr1:=λj hj=>(hr j hj).1
 rcases (by omega:x.F=0\/x.F=1\/x.F=2\/x.F=3\/x.F=5\/x.F=4) with k | k | k | k | k | k
 ·rcases hK.1 k with e | e
  ·refine⟨nodes,unique,memo,0,⟨h,Pre.refl _,vd0,?_,om⟩,λQ hQ=>aJ (λ_=>by rw[e];exact hQ) (λhf=>by simp[k] at hf)⟩
   rw[dn0];funext σ;simp[lZ,pO,k,e]
  ·refine⟨nodes,unique,memo,1,⟨h,Pre.refl _,vd1,?_,om⟩,λQ hQ=>aJ (λ_=>by rw[e];exact hQ) (λhf=>by simp[k] at hf)⟩
   rw[dn1];funext σ;simp[lZ,pO,k,e]
 ·have h1:x.M.length=1:=by simpa[mY,k] using ha
  obtain⟨n1,u1,m1,r,a,w⟩:=Rj h om (hr 0 om).1
  refine⟨n1,u1,m1,r,⟨a.ts,a.pre,a.vd,?_,by have:=a.le;omega⟩,λQ hQ=>aJ (λhf=>by simp[k] at hf) (λ_=>aJ (λ_=>⟨om,w _ hQ⟩) (λhf=>by simp[k] at hf))⟩
  rw[a.dn];funext σ
  have:=hc σ
  rw[hl,h1] at this
  rw[lZ,h1,<-this]
  simp only[pO,k,jP]
  show _=((((0+if dn nodes (at' refs ((0:Nat):Int)) σ=true then 1 else 0):Nat):Int) == 0)
  cases dn nodes (at' refs ((0:Nat):Int)) σ<;>rfl
 ·obtain⟨n1,u1,m1,r,a,w⟩:=AY HN h hn (refs:=refs) (first:=1) (c:=true) om hb vd1 dn1 hr1
  refine⟨n1,u1,m1,r,⟨a.ts,a.pre,a.vd,?_,a.le⟩,λQ hQ=>aJ (λhf=>by simp[k] at hf) (λ_=>aJ (λhf=>by simp[k] at hf) (λ_=>aJ (λ_=>w Q hQ) (λhf=>by simp[k] at hf)))⟩
  rw[a.dn];funext σ
  rw[zS,hc σ,lZ,hl]
  simp only[pO,k]
  rw[Bool.eq_iff_iff];simp;omega
 ·obtain⟨n1,u1,m1,r,a,w⟩:=AY RM h hn (refs:=refs) (first:=0) (c:=false) om hb vd0 dn0 hr1
  refine⟨n1,u1,m1,r,⟨a.ts,a.pre,a.vd,?_,a.le⟩,λQ hQ=>aJ (λhf=>by simp[k] at hf) (λ_=>aJ (λhf=>by simp[k] at hf) (λ_=>aJ (λhf=>by simp[k] at hf) (λ_=>aJ (λ_=>w Q hQ) (λhf=>by simp[k] at hf))))⟩
  rw[a.dn];funext σ
  rw[Cf,hc σ,lZ]
  simp only[pO,k]
  rw[Bool.eq_iff_iff];simp
 ·obtain⟨n1,u1,m1,r,a,w⟩:=AY HM h hn (refs:=refs) (first:=0) (c:=false) om hb vd0 dn0 hr1
  refine⟨n1,u1,m1,r,⟨a.ts,a.pre,a.vd,?_,a.le⟩,λQ hQ=>aJ (λhf=>by simp[k] at hf) (λ_=>aJ (λhf=>by simp[k] at hf) (λ_=>aJ (λhf=>by simp[k] at hf) (λ_=>aJ (λhf=>by simp[k] at hf) (λ_=>aJ (λ_=>w Q hQ) (λhf=>by simp[k] at hf)))))⟩
  rw[a.dn];funext σ
  rw[zR,hc σ,lZ]
  simp only[pO,k]
  rw[Bool.eq_iff_iff]
  have:=Int.tmod_eq_emod_of_nonneg (a:=((cnt x (V σ) x.M.length:Nat):Int)) (b:=2) om
  simp[this];omega
 ·have k4:=hK.2 k
  obtain⟨kk,hkk⟩:∃kk:Nat,x.K=kk:=⟨x.K.toNat,om⟩
  obtain⟨n1,u1,m1,r,a,w⟩:=Rl h hn (refs:=refs) (k:=kk) om om hb hr1
  refine⟨n1,u1,m1,r,⟨a.ts,a.pre,a.vd,?_,a.le⟩,λQ hQ=>aJ (λhf=>by simp[k] at hf) (λ_=>aJ (λhf=>by simp[k] at hf) (λ_=>aJ (λhf=>by simp[k] at hf) (λ_=>aJ (λhf=>by simp[k] at hf) (λ_=>aJ (λhf=>by simp[k] at hf) (λ_=>by rw[hkk];exact w Q hQ)))))⟩
  rw[a.dn];funext σ
  rw[hc σ,lZ]
  simp only[pO,k,hkk]
  rw[Bool.eq_iff_iff];simp
end
def jp (f:GFormula) (o:List Int):Int:=if jQ f≠0 then jQ f else tC o f.A
def fF (f:GFormula):Asg->Bool:=λσ=>FV f (iN σ f.A.toNat)
theorem oR {f:GFormula} {o:List Int}:jp f o=0↔FG f/\Or14 o/\(o.length:Int)=f.A:=by
 unfold jp
 constructor
 ·intro h
  split at h
  ·rename_i hc;exact absurd h hc
  ·rename_i hc
   have hl:(o.length:Int)=f.A:=by
    unfold tC at h
    split at h
    ·cases h
    split at h
    ·cases h
    ·rename_i hn;omega
   rw[<-hl] at h
   exact⟨lJ.1 om,CT h,hl⟩
 ·rintro⟨g,h,hl⟩
  rw[if_neg (by rw[lJ.2 g];simp),<-hl]
  exact HK h
theorem SY {f:GFormula} {o:List Int} (h:Or14 o) (hl:(o.length:Int)=f.A):Dep (fF f) (iU o):=λσ σ' hh=>by
 unfold fF
 rw[qw λv hv=>hh v (h.all om)]
def u_ (x:GFormula) (i:Nat):Asg->Bool:=λσ=>at' (de x (iN σ x.A.toNat) x.N.length) (x.A+i)
def pp (o:List Int) (F:Asg->Bool):Prop:=∀(place:List Int) (nodes:List GDNode) (unique memo:GMap Int) (r:Int) (Q:Bool->Prop),TS o place nodes unique memo->nodes.length<=1099511627776->Vd nodes r->dn nodes r=F->Q true->bA r 4096 o place nodes unique memo Q
theorem pp.few {o:List Int} {F:Asg->Bool} (h:o.length<=12):pp o F:=λ_ _ _ _ _ _ hT hb hv _ hQ=>Ju hT hb h hv hQ
theorem Dr {o place:List Int} {nodes:List GDNode} {unique memo:GMap Int} (h:TS o place nodes unique memo) (hb:nodes.length<=1099511627776) {r:Int} (hr:Vd nodes r) {Q:Bool->Prop} (hQ:∀b,Q b):bA r 4096 o place nodes unique memo Q:=by
 obtain⟨s,c,w⟩:=xx h hb o.length (o.length+1) (seen:=ib) (r:=r) (most:=4096) om hr om
 exact⟨o.length+1,w _ (hQ _)⟩
section
variable {f:GFormula} {o:List Int}
theorem Ak {x:GFormula} {place:List Int} {Q:GDiagram->Option Int->Prop} (g:FG x) (hl:(o.length:Int)=x.A) (hS:(∀i:Nat,i<x.N.length->pp o (u_ x i))\/Q noD (some 4)) (hT:TS o place [] ib ib) (hQ:Q (tL o (fF x)) none) :
  aH (σ:=Int×(List Int)×(GMap Int)×(List GDNode)) (0,(aQ (x.A+(x.N.length:Int)) 0),ib,[]) λ⟨x1,refs,x2,x3⟩ next1=>
     ac (decide (x1<x.A))
      (cJ x1 o place x3 x2 ib λu u1 r3=>
      ((0:Int)<=x1/\x1<(refs.length:Int))/\
      rng (x1+1)/\
      next1 ((x1+1),(aN refs x1 r3),u1,u))
      (aH (σ:=Int×(List Int)×(GMap Int)×(GMap Int)×(List GDNode)) (0,refs,x2,ib,x3) λ⟨x4,refs1,x5,x6,x7⟩ next2=>
       ac (decide (x4<(x.N.length:Int)))
        (((0:Int)<=x4/\x4<(x.N.length:Int))/\
        aH (σ:=Int×(List Int)) (0,[]) λ⟨x8,args⟩ next3=>
         ac (decide (x8<(((at' x.N x4).M).length:Int)))
          (((0:Int)<=x8/\x8<(((at' x.N x4).M).length:Int))/\
          ((0:Int)<=(at' ((at' x.N x4).M) x8)/\(at' ((at' x.N x4).M) x8)<(refs1.length:Int))/\
          ((args++[(at' refs1 (at' ((at' x.N x4).M) x8))]).length*8<=140737488355328)/\
          rng (x8+1)/\
          next3 ((x8+1),(args++[(at' refs1 (at' ((at' x.N x4).M) x8))])))
          (rng (x.A+x4)/\
          ∃u2 u3 u4 r4,(fY (at' x.N x4) args o place x7 x5 x6 λy1 y2 y3 y4=>y1=u2/\y2=u3/\y3=u4/\y4=r4)/\
          ((0:Int)<=(x.A+x4)/\(x.A+x4)<(refs1.length:Int))/\
          rng (x.A+x4)/\
          ((0:Int)<=(x.A+x4)/\(x.A+x4)<(refs1.length:Int))/\
          bA (at' (aN refs1 (x.A+x4) r4) (x.A+x4)) 4096 o place u2 u3 u4 λr5=>
          ac (!r5)
           (Q (⟨[],[],0⟩:GDiagram) (some 4))
           (rng (x4+1)/\
           next2 ((x4+1),(aN refs1 (x.A+x4) r4),u3,u4,u2))))
        (((0:Int)<=x.Z/\x.Z<(refs1.length:Int))/\
        cI (at' refs1 x.Z) o place x7 x5 x6 λr6=>
        Q r6 none)):=by
 have v0:=g.v0;have v24:=g.v24;have n128:=g.n128
 have hn:o.length<=24:=om
 obtain⟨nv,hnv⟩:∃nv:Nat,x.A=nv:=⟨x.A.toNat,om⟩
 have hrl:((aQ (x.A+(x.N.length:Int)) (0:Int)).length:Int)=x.A+x.N.length:=pb om
 refine bQ (n:=nv) (λi (y:Int×List Int×GMap Int×List GDNode)=>(y.1=(i:Int)/\(y.2.1.length:Int)=x.A+x.N.length/\y.2.2.2.length<=i/\TS o place y.2.2.2 y.2.2.1 ib)/\∀v:Nat,v<i->Vd y.2.2.2 (at' y.2.1 (v:Int))/\dn y.2.2.2 (at' y.2.1 (v:Int))=λσ=>σ v) (λy=>y.1) 0 (λi y hy=>by rw[hy.1.1];omega) ⟨⟨rfl,hrl,zero_le _,hT⟩,λv hv=>absurd hv om⟩ ?_ ?_
 ·rintro i ⟨x1,refs,u1,n1⟩ next hi ⟨⟨hx,hl1,hl2,hT1⟩,hI⟩ hn1
  dsimp only at hx hl1 hl2 hT1 hI
  subst hx
  obtain⟨n2,u2,r2,a,w⟩:=Jy hT1 om (v:=(i:Int)) om
  have:=a.le
  refine condT (λ_=>w _ ⟨om,zRg,hn1 _ ⟨⟨by dsimp only;omega,by dsimp only;rw[bJ];exact hl1,by dsimp only;omega,a.ts⟩,λv hv=>?_⟩⟩) (λhc=>absurd (show(i:Int)<x.A by omega) hc)
  dsimp only
  rw[cm om]
  split
  ·rename_i he;subst he
   exact⟨a.vd,a.dn⟩
  ·have h1:=hI v om
   exact⟨h1.1.pre a.pre,by rw[fM h1.1 a.pre,h1.2]⟩
 rintro⟨x1,refs,u1,n1⟩ next ⟨⟨hx,hl1,hl2,hT1⟩,hI⟩
 dsimp only at hx hl1 hl2 hT1 hI
 subst hx
 refine condT (λhc=>absurd hc om) (λ_=>?_)
 refine bQ (n:=x.N.length) (λi (y:Int×List Int×GMap Int×GMap Int×List GDNode)=>(y.1=(i:Int)/\(y.2.1.length:Int)=x.A+x.N.length/\y.2.2.2.2.length<=24+4294967296*i/\TS o place y.2.2.2.2 y.2.2.1 y.2.2.2.1)/\∀a:Nat,(a:Int)<x.A+i->Vd y.2.2.2.2 (at' y.2.1 (a:Int))/\dn y.2.2.2.2 (at' y.2.1 (a:Int))=λσ=>at' (de x (iN σ nv) i) (a:Int)) (λy=>y.1) 0
  (λi y hy=>by rw[hy.1.1];omega) ⟨⟨rfl,hl1,by dsimp only;omega,hT1⟩,λa ha=>?_⟩ ?_ ?_
 ·dsimp only
  have h1:=hI a om
  refine⟨h1.1,?_⟩
  rw[h1.2]
  funext σ
  rw[kO om om,toNat_natCast,Ji om]
 ·rintro i ⟨x4,refs1,u5,m5,n5⟩ next2 hi ⟨⟨hx,hr1,hl5,hT5⟩,hA⟩ hn2
  dsimp only at hx hr1 hl5 hT5 hA
  subst hx
  have ng:=lm (g.node i hi)
  have hin:=sA g hi
  have ll:=ng.len
  have hi128:i<128:=om
  have hl6:n5.length<=549755813888:=le_trans hl5 om
  refine condT (λ_=>⟨om,?_⟩) (λhc=>absurd (show(i:Int)<_ by omega) hc)
  refine ig (n:=(at' x.N (i:Int)).M.length) (λj=>((j:Int),((at' x.N (i:Int)).M.take j).map λa=>at' refs1 a)) (λy=>y.1) 0 (λj=>by dsimp only;omega) rfl (λj next3 hj hn3=>?_) (λnext3=>?_)
  ·have h3:=hin _ (ta hj)
   dsimp only
   refine condT (λ_=>⟨om,om,by rw[gO,length_map,List.length_take];omega,zRg,?_⟩) (λhc=>absurd (show(j:Int)<_ by omega) hc)
   rw[nj hj,map_append] at hn3
   exact hn3
  ·refine condT (λhc=>absurd hc om) (λ_=>?_)
   rw[take_length]
   obtain⟨n6,u6,m6,r6,a,w⟩:=R7 hT5 hn (x:=at' x.N (i:Int)) (refs:=(at' x.N (i:Int)).M.map λa=>at' refs1 a) (V:=λσ=>de x (iN σ nv) i) ⟨ng.k0,ng.k5⟩ (HV (g.node i hi)) ng.args (by rw[length_map]) ll hl6 (λj hj=>by
    rw[length_map] at hj
    have h3:=hin _ (ta hj)
    rw[yo hj]
    have:=hA (at' (at' x.N (i:Int)).M (j:Int)).toNat om
    rw[show(((at' (at' x.N (i:Int)).M (j:Int)).toNat:Nat):Int)=at' (at' x.N (i:Int)).M (j:Int) by omega] at this
    exact this)
   have l6:=a.le
   have hl7:n6.length<=24+4294967296*(i+1):=le_trans l6 om
   have eset:at' (aN refs1 (x.A+i) r6) (x.A+i)=r6:=by rw[iO om om,if_pos rfl]
   refine⟨zRg,n6,u6,m6,r6,w _ ⟨rfl,rfl,rfl,rfl⟩,om,zRg,om,?_⟩
   rw[eset]
   have hfin:∀P:Bool->Prop,P true->(Q noD (some 4)->P false)->bA r6 4096 o place n6 u6 m6 P:=λP h1 h2=>by
    rcases hS with hS | hS
    ·refine hS i hi _ _ _ _ _ _ a.ts (le_trans hl7 om) a.vd ?_ h1
     rw[a.dn]
     funext σ
     unfold u_
     rw[rI v0 hi,hnv,toNat_natCast]
    ·exact Dr a.ts (le_trans hl7 om) a.vd λb=>match b with
      | false=>h2 hS
      | true=>h1
   refine hfin _ (aJ (λhc=>by cases hc) (λ_=>⟨zRg,hn2 _ ⟨⟨by dsimp only;omega,by dsimp only;rw[bJ];exact hr1,hl7,a.ts⟩,λb hb=>?_⟩⟩)) (λh4=>aJ (λ_=>h4) (λhc=>by cases hc))
   show Vd n6 (at' (aN refs1 (x.A+i) r6) (b:Int))/\dn n6 (at' (aN refs1 (x.A+i) r6) (b:Int))=_
   rw[iO om om]
   by_cases hbi:(b:Int)=x.A+i
   ·rw[if_pos hbi,hbi]
    refine⟨a.vd,?_⟩
    rw[a.dn]
    funext σ
    have hvl:((de x (iN σ nv) i).length:Int)=x.A+i:=by rw[jC];omega
    rw[de,<-hvl,gA]
   ·rw[if_neg hbi]
    have h1:=hA b om
    refine⟨h1.1.pre a.pre,?_⟩
    rw[fM h1.1 a.pre,h1.2]
    funext σ
    rw[kN (m:=i) om om (i+1) om]
 ·rintro⟨x4,refs1,u5,m5,n5⟩ next2 ⟨⟨hx,hr1,hl5,hT5⟩,hA⟩
  dsimp only at hx hr1 hl5 hT5 hA
  subst hx
  have t0:=g.top0;have tt:=g.top
  have ht:=hA x.Z.toNat om
  rw[show((x.Z.toNat:Nat):Int)=x.Z by omega] at ht
  refine condT (λhc=>absurd hc om) (λ_=>⟨om,Hf hT5 (le_trans hl5 om) ht.1 ?_⟩)
  rw[ht.2]
  have:(λσ=>at' (de x (iN σ nv) x.N.length) x.Z)=fF x:=by
   funext σ;unfold fF FV;rw[hnv];rfl
  rw[this]
  exact hQ
theorem tK {Q:GDiagram->Option Int->Prop} (ht:rng f.Z) (h1:jp f o≠0->Q noD (some (jp f o))) (hn:jp f o=0->(∀i:Nat,i<f.N.length->pp o (u_ f i))\/Q noD (some 4)) (h2:jp f o=0->Q (tL o (fF f)) none):fN f o Q:=by
 refine U2 ht (λhc=>?_) (λg r a hr hr0=>?_)
 ·have e:jp f o=jQ f:=if_pos hc
  rw[e] at h1
  exact aJ (λ_=>h1 hc) (λhf=>by cases hf)
 ·refine aJ (λhf=>by cases hf) (λ_=>?_)
  have e:jp f o=tC o f.A:=if_neg (by rw[lJ.2 g];simp)
  refine wv ?_
  by_cases h0:tC o f.A=0
  ·rw[h0]
   have hz:jp f o=0:=by rw[e,h0]
   obtain⟨_,hO,hl⟩:=oR.1 hz
   have hS:=hn hz
   have hQ:=h2 hz
   have v0:=g.v0;have n128:=g.n128
   refine aJ (λhf=>by cases hf) (λ_=>⟨λx=>FG x/\x.A=f.A/\(∀s,FV x s=FV f s)/\∀n:Nat,n<x.N.length->∃k:Nat,k<f.N.length/\∀s,at' (de x s x.N.length) (f.A+n)=at' (de f s f.N.length) (f.A+k),?_,?_⟩)
   ·refine condT (λ_=>U0 g (λx gx hv hf hN=>aJ (λhc=>by cases hc) (λ_=>⟨gx,hv,hf,hN⟩))) (λhc=>?_)
    have htv:=hr0 om
    refine⟨⟨g.v0,g.v24,by simp,λi hi=>by simp at hi,g.top0,by simpa using htv⟩,rfl,λs=>?_,λn hn=>by simp at hn⟩
    show at' (de ⟨f.A,[],f.Z⟩ s 0) f.Z=at' (de f s f.N.length) f.Z
    rw[kO (f:=⟨f.A,[],f.Z⟩) g.top0 htv,kO g.top0 htv]
   ·rintro x ⟨gx,hv,hf,hN⟩
    have hSx:(∀i:Nat,i<x.N.length->pp o (u_ x i))\/Q noD (some 4):=by
     rcases hS with hS | hS
     ·refine .inl λi hi=>?_
      obtain⟨k,hk,hkv⟩:=hN i hi
      have e:u_ x i=u_ f k:=by funext σ;unfold u_;rw[hv,hkv]
      rw[e]
      exact hS k hk
     ·exact .inr hS
    refine abv hO (λplace hT=>⟨by unfold rng;have:=gx.v24;have:=gx.n128;have:=gx.v0;omega,⟨by have:=gx.v24;have:=gx.n128;have:=gx.v0;omega,by have:=gx.v24;have:=gx.n128;have:=gx.v0;omega,by have:=gx.v24;have:=gx.n128;have:=gx.v0;omega,by have:=gx.v24;have:=gx.n128;have:=gx.v0;omega⟩,Ak gx om hSx hT ?_⟩)
    have:fF x=fF f:=by funext σ;unfold fF;rw[hv,hf]
    rw[this]
    exact hQ
  ·have e2:mF (tC o f.A)=some (tC o f.A):=vM h0
   rw[e2]
   rw[e] at h1
   exact aJ (λ_=>h1 h0) (λhf=>by cases hf)
theorem tJ {Q:GDiagram->Option Int->Prop} (ht:rng f.Z) (h1:jp f o≠0->Q noD (some (jp f o))) (hn:jp f o=0->f.A<=12) (h2:jp f o=0->Q (tL o (fF f)) none):fN f o Q:=
 tK ht h1 (λhz=>.inl λ_ _=>pp.few (by have:=(oR.1 hz).2.2;have:=hn hz;omega)) h2
end
theorem PE {α:Type} [Inhabited α] {l:List α} {i:Nat} (h:i<l.length):at' l (i:Int)=l[i]:=by
 unfold at'
 rw[List.getD_eq_getElem?_getD,toNat_natCast,List.getElem?_eq_getElem h]
 rfl
section
variable {lt:Int->Int->Bool}
end
def sm:Nat->(Nat->Nat)->Nat
 | 0,_=>0
 | n+1,f=>sm n f+f n
structure Bij (n:Nat) (p a:Nat->Nat):Prop where
 lt:∀v,v<n->p v<n
 lt':∀k,k<n->a k<n
 ap:∀v,v<n->a (p v)=v
 pa:∀k,k<n->p (a k)=k
section
variable {d:GDiagram}
theorem YW {e:Int} {A B:Prop} (h0:e≠0->A) (h1:e=0->B):ac (isSome (mF e)) A B:=by
 by_cases h:e=0
 ·rw[h];exact aJ (λhc=>by cases hc) (λ_=>h1 h)
 ·exact aJ (λ_=>h0 h) (λhc=>by rw[Dk h] at hc;cases hc)
end
def oH (n:Nat):List Int:=(range n).map λi:Nat=>(i:Int)
theorem zA {n:Nat}:(oH n).length=n:=by simp[oH]
theorem zD {n:Nat} {x:Int}:x∈oH n↔0<=x/\x<n:=by
 simp only[oH,List.mem_map,List.mem_range]
 constructor
 ·rintro⟨i,h,rfl⟩;omega
 ·intro h;exact⟨x.toNat,om,om⟩
theorem C7 {n:Nat}:oH (n+1)=oH n++[(n:Int)]:=by simp[oH,range_succ]
section
variable {o:List Int}
end
section
variable {o a b:List Int}
end
section
variable {f:GFormula}
def qB (f:GFormula):Nat->Int->List Int×List Bool->List Int×List Bool
 | 0,_,s=>s
 | fu+1,arg,s=>if at' s.2 arg=true then s else if arg<f.A then (s.1++[arg],aN s.2 arg true) else (at' f.N (arg-f.A)).M.foldl (λs x=>qB f fu x s) (s.1,aN s.2 arg true)
structure VI (f:GFormula) (s:List Int×List Bool):Prop where
 len:(s.2.length:Int)=f.A+f.N.length
 nd:s.1.Nodup
 mem:∀v,v∈s.1↔(0<=v/\v<f.A)/\at' s.2 v=true
theorem CX {l:List Int} {n:Int} (h:l.Nodup) (hm:∀v∈l,0<=v/\v<n):(l.length:Int)<=max n 0:=by
 have h1:=qW n.toNat (l.map toNat) (by
  rw[List.Nodup,List.pairwise_map]
  exact List.Pairwise.imp_of_mem (λ{a b} ha hb hab he=>hab (by have:=hm a ha;have:=hm b hb;omega)) h) (λx hx=>by
  obtain⟨v,hv,rfl⟩:=List.mem_map.1 hx
  have:=hm v hv
  omega)
 rw[length_map] at h1
 omega
theorem VI.few (g:FG f) {s:List Int×List Bool} (h:VI f s):s.1.length<=24:=by
 have:=CX h.nd (n:=f.A) (λv hv=>((h.mem v).1 hv).1)
 have:=g.v24
 have:=g.v0
 omega
theorem Bi (g:FG f):∀(fu:Nat) (arg:Int) (s:List Int×List Bool) (Q:List Int->List Bool->Prop),0<=arg->arg<f.A+f.N.length->arg<fu->VI f s->(VI f (qB f fu arg s)->Q (qB f fu arg s).1 (qB f fu arg s).2)->
  cd fu arg f.A f.N f.Z s.1 s.2 Q
 | 0,_,_,_,h0,_,h2,_,_=>om
 | fu+1,arg,s,Q,h0,h1,h2,hv,hQ=>by
  have hlen:=hv.len
  have hfew:=hv.few g
  have hv0:=g.v0
  have hv24:=g.v24
  rw[cd]
  refine⟨⟨h0,om⟩,aJ (λhs=>?_) (λhs=>⟨⟨h0,om⟩,condT (λhc=>?_) (λhc=>?_)⟩)⟩
  ·rw[qB,if_pos hs] at hQ
   exact hQ hv
  ·have hs':¬at' s.2 arg=true:=by rw[hs];simp
   rw[qB,if_neg hs',if_pos hc] at hQ
   refine⟨by rw[length_append,length_singleton];omega,hQ ⟨by rw[bJ];exact hlen,?_,λv=>?_⟩⟩
   ·refine List.nodup_append.2 ⟨hv.nd,by simp,λa ha b hb he=>?_⟩
    rw[List.mem_singleton] at hb
    subst hb
    subst he
    exact hs' ((hv.mem a).1 ha).2
   ·rw[mem_append,List.mem_singleton,hv.mem v]
    constructor
    ·rintro(⟨h5,h6⟩ | rfl)
     ·refine⟨h5,?_⟩
      rw[iO ⟨h0,om⟩ h5.1]
      split
      ·rfl
      ·exact h6
     ·exact⟨⟨h0,hc⟩,by rw[iO ⟨h0,om⟩ h0,if_pos rfl]⟩
    ·rintro⟨h5,h6⟩
     rw[iO ⟨h0,om⟩ h5.1] at h6
     split at h6
     ·rename_i he;exact .inr he
     ·exact .inl ⟨h5,h6⟩
  ·have hs':¬at' s.2 arg=true:=by rw[hs];simp
   rw[qB,if_neg hs',if_neg hc] at hQ
   obtain⟨i,hi⟩:∃i:Nat,arg-f.A=i:=⟨(arg-f.A).toNat,om⟩
   have hil:i<f.N.length:=om
   rw[hi] at hQ ⊢
   have hargs:=sA g hil
   have h16:=(lm (g.node i hil))
   refine⟨by unfold rng;have:=g.n128;omega,⟨om,om⟩,?_⟩
   generalize hA:(at' f.N (i:Int)).M=A at hQ hargs ⊢
   have hA16:A.length<=16:=by rw[<-hA];exact h16.len
   have hv1:VI f (s.1,aN s.2 arg true):=by
    refine⟨by rw[bJ];exact hlen,hv.nd,λv=>?_⟩
    rw[hv.mem v]
    constructor
    ·rintro⟨h5,h6⟩
     refine⟨h5,?_⟩
     rw[iO ⟨h0,om⟩ h5.1]
     split
     ·rfl
     ·exact h6
    ·rintro⟨h5,h6⟩
     rw[iO ⟨h0,om⟩ h5.1,if_neg om] at h6
     exact⟨h5,h6⟩
   refine bQ (n:=A.length) (λj y=>y=((j:Int),((A.take j).foldl (λs x=>qB f fu x s) (s.1,aN s.2 arg true)).1,((A.take j).foldl (λs x=>qB f fu x s) (s.1,aN s.2 arg true)).2)/\VI f ((A.take j).foldl (λs x=>qB f fu x s) (s.1,aN s.2 arg true)))
    (λy=>y.1) 0 (λj y hy=>by rw[hy.1];omega) ⟨rfl,hv1⟩ ?_ ?_
   ·rintro j _ next hj ⟨rfl,hI⟩ hn
    have ha:=hargs _ (ta hj)
    have e:(A.take (j+1)).foldl (λs x=>qB f fu x s) (s.1,aN s.2 arg true)=qB f fu (at' A (j:Int)) ((A.take j).foldl (λs x=>qB f fu x s) (s.1,aN s.2 arg true)):=by
     rw[nj hj,List.foldl_append]
     rfl
    refine condT (λ_=>⟨⟨om,om⟩,Bi g fu _ _ _ ha.1 om om hI (λhV=>⟨?_,zRg,hn _ ⟨?_,by rw[e];exact hV⟩⟩)⟩) (λhc=>absurd (show(j:Int)<A.length by omega) hc)
    ·have h3:=hV.len
     have h4:=hI.len
     omega
    ·rw[e]
     rfl
   ·rintro _ next ⟨rfl,hI⟩
    refine condT (λhc=>by first | omega | (dsimp only at hc;omega)) (λ_=>?_)
    have e:A.take A.length=A:=List.take_of_length_le (le_refl _)
    rw[e] at hI ⊢
    exact hQ hI
def ni (f:GFormula):List Int×List Bool:=qB f (f.A+(f.N.length:Int)).toNat f.Z ([],aQ (f.A+(f.N.length:Int)) false)
def dQ (f:GFormula):List Int:=(ni f).1++(oH f.A.toNat).filter λv=>!(at' (ni f).2 v)
theorem CN {n v:Int}:at' (aQ n false) v=false:=by
 unfold at' aQ
 rw[List.getD_eq_getElem?_getD,List.getElem?_replicate]
 split<;>rfl
theorem VI0 (g:FG f):VI f ([],aQ (f.A+(f.N.length:Int)) false):=
 ⟨by have:=g.v0;rw[pb om],List.nodup_nil,λv=>by rw[CN];simp⟩
theorem Jf (g:FG f) {Q:List Int->List Bool->Prop} (hQ:VI f (ni f)->Q (dQ f) (ni f).2):my f Q:=by
 have hv0:=g.v0
 have hv24:=g.v24
 have hn:=g.n128
 have ht0:=g.top0
 have ht:=g.top
 refine⟨zRg,⟨om,om,om,om⟩,(f.A+(f.N.length:Int)).toNat,Bi g _ f.Z ([],aQ (f.A+(f.N.length:Int)) false) _ ht0 ht om (VI0 g) (λhV=>?_)⟩
 have hlen:=hV.len
 have hfew:=hV.few g
 refine⟨by have:=(VI0 g).len;dsimp only at this;omega,?_⟩
 obtain⟨n,hvn⟩:∃n:Nat,f.A=n:=⟨f.A.toNat,om⟩
 refine ig (n:=n) (λi=>((i:Int),(ni f).1++(oH i).filter λv=>!(at' (ni f).2 v))) (λy=>y.1) 0 (λi=>by first | omega | (dsimp only;omega)) (by simp[oH];rfl) ?_ ?_
 ·intro i next hi hn1
  have hf:=List.length_filter_le (λv=>!(at' (ni f).2 v)) (oH i)
  rw[zA] at hf
  have hl2:(ni f).1.length<=24:=hfew
  have hl3:((ni f).2.length:Int)=f.A+f.N.length:=hlen
  rw[C7,List.filter_append] at hn1
  refine condT (λ_=>⟨⟨om,by show(i:Int)<((ni f).2.length:Int);omega⟩,aJ (λhb=>?_) (λhb=>?_)⟩) (λhc=>absurd om hc)
  ·have hb':(!at' (ni f).2 (i:Int))=true:=hb
   rw[List.filter_cons_of_pos (by exact hb'),List.filter_nil,<-append_assoc] at hn1
   refine⟨by simp only[length_append,length_singleton];omega,zRg,?_⟩
   simpa using hn1
  ·have hb':¬(!at' (ni f).2 (i:Int))=true:=by
    intro hc
    have hc2:(!at' (ni f).2 (i:Int))=false:=hb
    rw[hc2] at hc
    cases hc
   rw[List.filter_cons_of_neg (by exact hb'),List.filter_nil,List.append_nil] at hn1
   exact⟨zRg,by simpa using hn1⟩
 ·intro next
  refine condT (λhc=>by first | omega | (dsimp only at hc;omega)) (λ_=>?_)
  have:=hQ hV
  unfold dQ at this
  rw[hvn,toNat_natCast] at this
  exact this
theorem xm (h:VI f (ni f)) {v:Int}:v∈dQ f↔0<=v/\v<f.A:=by
 unfold dQ
 rw[mem_append,List.mem_filter,zD,h.mem v]
 cases hb:at' (ni f).2 v with
 | true=>simp
 | false=>simp;omega
theorem zY (h:VI f (ni f)):(dQ f).Nodup:=by
 refine List.nodup_append.2 ⟨h.nd,?_,λa ha b hb he=>?_⟩
 ·refine List.Nodup.sublist List.filter_sublist ?_
  unfold oH
  rw[List.Nodup,List.pairwise_map]
  exact List.Pairwise.imp (λh hc=>h om) (List.nodup_range (n:=f.A.toNat))
 ·subst he
  have h1:=((h.mem a).1 ha).2
  have h2:=(List.mem_filter.1 hb).2
  rw[h1] at h2
  cases h2
theorem H0 {n:Nat}:(oH n).Nodup:=by
 unfold oH
 rw[List.Nodup,List.pairwise_map]
 exact List.Pairwise.imp (λh hc=>h om) (List.nodup_range (n:=n))
theorem A9 (h:VI f (ni f)):(dQ f).Perm (oH f.A.toNat):=
 (List.perm_ext_iff_of_nodup (zY h) H0).2 (λv=>by rw[xm h,zD];omega)
theorem Jz (ht:rng f.Z) {Q:List Int->Option Int->Prop} (h0:jQ f≠0->Q [] (some (jQ f))) (h1:FG f->VI f (ni f)->Q (dQ f) none):mz f Q:=by
 refine eV ht (YW (λhc=>by rw[vM hc];exact h0 hc) (λhz=>?_))
 have g:=lJ.1 hz
 exact Jf g (h1 g)
end
structure PL (l:List GRat) (p:Nat->Rat) (n:Nat):Prop where
 len:l.length=n
 rp:∀v:Nat,v<n->Rp 129 (at' l (v:Int)) (p v)
 pos:∀v,v<n->0<=p v/\p v<=1
section
variable {n:Nat} {lev:Nat->Nat} {ord:List Nat} {N:List GDNode} {p:Nat->Rat} {l:List GRat}
theorem FZ (hO:OrdL n lev ord) (hp:PL l p n) (hn:n<=24) {r:Nat}:Rp 4000 (ay (prS p N ord r)) (prS p N ord r):=by
 have hm:∀v∈ord,v<n:=λv hv=>by
  have:v∈ord.drop 0:=by rw[List.drop_zero];exact hv
  exact(hO.mem.1 this).1
 refine .of ((YV (λv hv=>hp.pos v (hm v hv)) λv hv=>(hp.rp v (hm v hv)).2.2).mono ?_) (by decide)
 have:=hO.len
 omega
def prL (p:Nat->Rat) (N:List GDNode) (ord:List Nat) (i:Nat):List GRat:=(range i).map λj=>ay (prS p N ord (2+j))
theorem BR {i:Nat}:(prL p N ord i).length=i:=by simp[prL]
theorem RJ {i j:Nat} (h:j<i):at' (prL p N ord i) (j:Int)=ay (prS p N ord (2+j)):=by simp[prL,at',List.getD_eq_getElem?_getD,h]
theorem zo {i:Nat}:prL p N ord i++[ay (prS p N ord (2+i))]=prL p N ord (i+1):=by simp[prL,range_succ]
theorem RQ {i:Nat} {r:Int} {Q:GRat->Prop} (hi:i<=1000000000) (h0:0<=r) (h1:r<2+i) (h:Q (ay (prS p N ord r.toNat))):nt (prL p N ord i) r Q:=by
 refine condT (λh2=>?_) (λh2=>?_)
 ·refine RR zRg λ_=>?_
  rcases (show r=0\/r=1 by omega) with rfl | rfl
  ·rw[show toNat 0=0 from rfl,HF] at h;exact h
  ·rw[show toNat 1=1 from rfl,RI] at h;exact h
 ·refine⟨zRg,⟨om,by rw[BR];omega⟩,?_⟩
  have e:r-2=((r.toNat-2:Nat):Int):=om
  rw[e,RJ om,show 2+(r.toNat-2)=r.toNat by omega]
  exact h
theorem HU (hO:OrdL n lev ord) (h:WT n lev N) (hp:PL l p n) (hn:n<=24) {i:Nat} {x:GDNode} (hx:N[i]? = some x) (hi:i<=1000000000) {Q:GRat->Prop} (hQ:Q (ay (prS p N ord (2+i)))):iy x l (prL p N ord i) Q:=by
 have nd:=h.nd i x hx
 have h1:=nd.lo;have h2:=nd.hi;have hv:=nd.var
 have hl:=hp.len
 have hpr:=hp.rp x.Y.toNat om
 rw[show((x.Y.toNat:Nat):Int)=x.Y by omega] at hpr
 refine⟨⟨om,om⟩,F7 zRg λr1=>xJ r1 hpr (by decide) λr2=>⟨_,RQ hi h1.1 h1.2 rfl,ya r2 (FZ hO hp hn) (by decide) λr3=>⟨_,RQ hi h2.1 h2.2 rfl,ya hpr (FZ hO hp hn) (by decide) λr4=>oU r3 r4 (by decide) λ_=>?_⟩⟩⟩
 rw[show((1:Int):Rat)=1 from rfl,<-HG hO h hx]
 exact hQ
theorem Fg {d:GDiagram} (hO:OrdL n lev ord) (h:WT n lev d.N) (hp:PL l p n) (hn:n<=24) (hl:d.N.length<=16777216) {Q:List GRat->Prop} (hQ:Q (prL p d.N ord d.N.length)):jc d l Q:=by
 refine⟨⟨om,om,om,om⟩,?_⟩
 refine ig (n:=d.N.length) (λi=>((i:Int),prL p d.N ord i)) (λy=>y.1) 0 (λi=>by simp) (by rfl) (λi next hi hn1=>?_) (λnext=>?_)
 ·have hx:=GX (N:=d.N) hi
  refine condT (λ_=>⟨⟨om,om⟩,HU hO h hp hn hx om ⟨?_,zRg,?_⟩⟩) (λhc=>absurd (show(i:Int)<(d.N.length:Int) by omega) hc)
  ·rw[zo,BR];omega
  ·rw[zo];exact hn1
 ·exact condT (λhc=>absurd hc om) (λ_=>hQ)
theorem CI {vars:Int} {Q:Option Int->Prop} (hp:PL l p n) (hn:n<=24) (hv:vars=n) (hb:∀i:Nat,i<n->wQ (at' l (i:Int))=true) (hQ:Q none):jT l vars Q:=by
 have hl:=hp.len
 refine ga (λhc=>absurd hc om) (λ_=>?_)
 unfold bm bt
 refine pF (λ_=>False) om (λj next hj _ hnx=>?_) (λ_=>?_)
 ·refine⟨⟨om,om⟩,tw (hp.rp j om).1 ?_⟩
  rw[hb j om]
  exact aJ (λhc=>by cases hc) (λ_=>hnx (λhf=>hf))
 ·exact aJ (λhc=>by cases hc) (λ_=>hQ)
end
def exF (p:Nat->Rat) (f:GFormula):Rat:=ex p (range f.A.toNat) (λτ=>b2q (fF f τ)) (λ_=>false)
theorem GL {f:GFormula} (g:FG f) (h:VI f (ni f)):Or14 (dQ f)/\((dQ f).length:Int)=f.A/\(iU (dQ f)).Perm (range f.A.toNat):=by
 have hpm:=A9 h
 have hlen:(dQ f).length=f.A.toNat:=by rw[hpm.length_eq,zA]
 have v0:=g.v0;have v24:=g.v24
 have hnd:=zY h
 refine⟨⟨om,λi hi=>?_,λi j hi hj he=>?_⟩,om,?_⟩
 ·have:=(xm h).1 (ta hi)
  omega
 ·rw[PE hi,PE hj] at he
  have hpw:=List.pairwise_iff_getElem.1 hnd
  rcases Nat.lt_trichotomy i j with h1 | h1 | h1
  ·exact absurd he (hpw i j hi hj h1)
  ·exact h1
  ·exact absurd he.symm (hpw j i hj hi h1)
 ·have:=hpm.map toNat
  have e:(oH f.A.toNat).map toNat=range f.A.toNat:=by
   unfold oH
   rw[List.map_map]
   exact(List.map_congr_left (g:=id) λa _=>rfl).trans (List.map_id _)
  rw[e] at this
  exact this
theorem abu {f:GFormula} {l:List GRat} {p:Nat->Rat} {Q:GRat->Option Int->Prop} (g:FG f) (ht:rng f.Z) (hp:PL l p f.A.toNat) (hb:∀i:Nat,i<f.A.toNat->wQ (at' l (i:Int))=true)
  (hB:∀o:List Int,Or14 o->(o.length:Int)=f.A->∀Q':GDiagram->Option Int->Prop,(Q ⟨false,[],[]⟩ (some 4)->Q' noD (some 4))->Q' (tL o (fF f)) none->fN f o Q') (hQ:Rp 4000 (ay (exF p f)) (exF p f)->Q (ay (exF p f)) none):mh f l Q:=by
 have v0:=g.v0;have v24:=g.v24
 refine eV ht ?_
 rw[lJ.2 g]
 refine aJ (λhc=>by cases hc) (λ_=>CI hp om om hb (aJ (λhc=>by cases hc) (λ_=>Jz ht (λhc=>absurd (lJ.2 g) hc) λ_ hV=>aJ (λhc=>by cases hc) (λ_=>?_))))
 obtain⟨hO,hl,hpm⟩:=GL g hV
 refine hB _ hO hl _ (λh4=>aJ (λ_=>h4) (λhc=>by cases hc)) (aJ (λhc=>by cases hc) (λ_=>?_))
 have hln:(dQ f).length=f.A.toNat:=om
 have hp':PL l p (dQ f).length:=by rw[hln];exact hp
 obtain⟨w1,_,w3,w4⟩:=rD hO.ord WT.nil (SY (f:=f) hO hl)
 have hlen:=vW (iU (dQ f)) (fF f) []
 have h24:2^(iU (dQ f)).length<=16777216:=qs (by rw[gp];exact hO.le)
 have h24':(tL (dQ f) (fF f)).N.length<=16777216:=by
  show(dc (iU (dQ f)) (fF f) []).1.length<=16777216
  rw[List.length_nil,Nat.zero_add] at hlen
  omega
 have hroot:prS p (tL (dQ f) (fF f)).N (iU (dQ f)) (tL (dQ f) (fF f)).G.toNat=exF p f:=by
  unfold prS exF
  rw[Jd hpm hO.nodup]
  refine oN _ λτ=>?_
  congr 1
  exact w4 τ
 have hRp:=FZ (N:=(tL (dQ f) (fF f)).N) (r:=(tL (dQ f) (fF f)).G.toNat) hO.ord hp' hO.le
 rw[hroot] at hRp
 refine⟨_,Fg hO.ord w1 hp' hO.le h24' rfl,_,RQ (le_trans h24' (by decide)) (by show(0:Int)<=((dc (iU (dQ f)) (fF f) []).2:Int);omega) (by show(((dc (iU (dQ f)) (fF f) []).2:Nat):Int)<2+((dc (iU (dQ f)) (fF f) []).1.length:Int);omega) rfl,?_⟩
 rw[hroot]
 exact hQ hRp
theorem GG {p:Nat->Rat}:∀(n:Nat) {g:Nat->Rat} {σ:Asg},ex p (range n) (λτ=>g (iN τ n)) σ=aB (λt=>g t*pr p n t) (2^n)
 | 0,g,σ=>by
  show g 0=0+g 0*pr p 0 0
  rw[pr,Rat.mul_one,Rat.zero_add]
 | n+1,g,σ=>by
  rw[range_succ,A6]
  have e:∀τ:Asg,ex p [n] (λτ=>g (iN τ (n+1))) τ=(λt=>(1-p n)*g t+p n*g (t+2^n)) (iN τ n):=λτ=>by
   have h1:∀b,iN (b_ τ n b) n=iN τ n:=λb=>qw λv hv=>gX om
   rw[ex,ex,ex]
   dsimp only
   rw[iN,iN,fQ,fQ,h1,h1,if_neg (by decide),if_pos rfl]
  rw[oN _ e,GG n (g:=λt=>(1-p n)*g t+p n*g (t+2^n)),pow_succ,Nat.mul_two,rN,jb]
  refine aX _ λt ht=>?_
  rw[NI ht,NJ ht,Nat.add_comm (2^n) t]
  grind
theorem Je {p:Nat->Rat} {φ:GFormula} {n:Nat} (hv:φ.A=(n:Int)):exF p φ=aB (λt=>if FV φ t=true then pr p n t else 0) (2^n):=by
 have e1:φ.A.toNat=n:=om
 unfold exF fF
 rw[e1,GG n (g:=λt=>b2q (FV φ t))]
 refine aX _ λt _=>?_
 unfold b2q
 cases FV φ t
 ·rw[if_neg (by decide)];exact Rat.zero_mul _
 ·rw[if_pos rfl];exact Rat.one_mul _
theorem Ha {a:GRat} (ho:okR a=true) (h1:a.L.length<=1) (h2:a.W.length<=1) (h3:a.L.length=1->at' a.L 0<1024/\at' a.W 0<16) (hw:WrR a):RB 10 (aF a):=by
 have e:=nF ho
 unfold ay at e
 by_cases hz:(aF a).num=0
 ·rw[Rat.num_eq_zero.1 hz];exact nR _ om
 ·rw[if_neg hz] at e
  generalize aF a=q at *
  subst e
  dsimp only at h1 h2 h3
  have v1:∀m:Nat,(lim m).length<=1->m≠0->(lim m).length=1/\(m:Int)=at' (lim m) 0:=λm hm hne=>by
   have hl0:(lim m).length≠0:=λh0=>by
    have:=aM m
    rw[List.eq_nil_of_length_eq_zero h0] at this
    exact hne this.symm
   obtain⟨w,hw⟩:=List.length_eq_one_iff.1 (show(lim m).length=1 by omega)
   have hv:=aM m
   have hww:=aD m
   rw[hw] at hv hww ⊢
   have h0:0<=w:=(hww 0).1
   refine⟨rfl,?_⟩
   show(m:Int)=w
   have e1:val [w]=(0+w*4294967296^0).toNat:=rfl
   rw[e1] at hv
   omega
  have n1:=v1 q.num.natAbs h1 om
  have d1:=v1 q.den h2 q.den_nz
  have h3:=h3 n1.1
  constructor
  ·show q.num.natAbs<1024
   omega
  ·show q.den<1024
   omega
inductive Runs {σ:Type} (body:σ->(σ->Prop)->Prop):Nat->σ->Prop
 | done {x:σ} (h:∀K:σ->Prop,body x K):Runs body 0 x
 | step {x:σ} (z:σ) {n:Nat} (h:∀K:σ->Prop,K z->body x K) (r:Runs body n z):Runs body (n+1) x
theorem yh {p:Nat->Prop}:∀k,p k->∃n,p n/\∀m,p m->n<=m:=by
 intro k
 induction k using Nat.strongRecOn with
 | _ k ih=>
  intro h
  by_cases e:∃m,m<k/\p m
  ·obtain⟨m,hm,hp⟩:=e
   exact ih m hm hp
  ·exact⟨k,h,λm hm=>by
    rcases lt_or_ge m k with h1 | h1
    ·exact absurd ⟨m,h1,hm⟩ e
    ·exact h1⟩
theorem oJ {σ:Type} {body:σ->(σ->Prop)->Prop} {n:Nat} {x0:σ} (h:Runs body n x0):aH x0 body:=by
 classical
 have ex:∀y,(∃n,Runs body n y)->∃n,Runs body n y/\∀m,Runs body m y->n<=m:=λy ⟨n,hn⟩=>yh n hn
 refine⟨λy=>∃n,Runs body n y,λy=>if h:∃n,Runs body n y then Classical.choose (ex y h) else 0,⟨n,h⟩,?_⟩
 intro y hy
 have hs:=Classical.choose_spec (ex y hy)
 generalize hk:Classical.choose (ex y hy)=k at hs
 cases hs.1 with
 | done hd=>exact hd _
 | @step _ z m hst hr=>
  refine hst _ ⟨⟨m,hr⟩,?_⟩
  have hz:∃n,Runs body n z:=⟨m,hr⟩
  dsimp only
  rw[dif_pos hz,dif_pos hy,hk]
  have:=(Classical.choose_spec (ex z hz)).2 m hr
  omega
def prC:GChain:=⟨2,0,[⟨0,1,ay 1⟩,⟨1,0,ay 3⟩],[false,true]⟩
theorem abL:Fr (ay 1)/\okR (ay 1)=true/\0<gi (aF (ay 1)):=⟨eZ (k:=10) ⟨by decide +kernel,by decide +kernel⟩ (by decide),je _,by rw[aU];decide +kernel⟩
theorem abK:Fr (ay 3)/\okR (ay 3)=true/\0<gi (aF (ay 3)):=⟨eZ (k:=10) ⟨by decide +kernel,by decide +kernel⟩ (by decide),je _,by rw[aU];decide +kernel⟩
theorem FY {Q:Option Int->Prop} (h:Q none):eb prC Q:=by
 refine pR (c:=prC) (show(1:Int)<=2 by decide) (show(2:Int)<=256 by decide) rfl rfl (show 2<=1000000 by decide) (λi hi=>?_) ?_ h
 ·have hi:i<2:=hi
  rcases lt_or_ge i 1 with h1 | h1
  ·obtain rfl:i=0:=om
   exact⟨⟨show(0:Int)<=0 by decide,show(0:Int)<2 by decide⟩,⟨show(0:Int)<=1 by decide,show(1:Int)<2 by decide⟩,show(0:Int)≠1 by decide,abL⟩
  ·obtain rfl:i=1:=om
   exact⟨⟨show(0:Int)<=1 by decide,show(1:Int)<2 by decide⟩,⟨show(0:Int)<=0 by decide,show(0:Int)<2 by decide⟩,show(1:Int)≠0 by decide,abK⟩
 ·show List.Pairwise H6 [⟨0,1,ay 1⟩,⟨1,0,ay 3⟩]
  refine List.Pairwise.cons (λb hb=>?_) (List.Pairwise.cons (λb hb=>by cases hb) .nil)
  rw[List.mem_singleton] at hb
  subst hb
  exact Or.inl (show(0:Int)<1 by decide)
theorem qf {n:Int} (h:n.natAbs<1000000):rng n:=by unfold rng;omega
theorem cT {b:Bool} {p q:Prop} (hb:b=true) (h:p):ac b p q:=⟨λ_=>h,λe=>by rw[hb] at e;cases e⟩
theorem cF {b:Bool} {p q:Prop} (hb:b=false) (h:q):ac b p q:=⟨λe=>(by rw[hb] at e;cases e),λ_=>h⟩
theorem HH {Q:List Bool->Option Int->Prop} (h:Q [true,false] none):jB prC Q:=by
 unfold jB
 refine FY (cF rfl ⟨⟨by decide,by decide,by decide,by decide⟩,⟨by decide,by decide⟩,⟨by decide,by decide⟩,?_⟩)
 show aH (σ:=Bool×List Bool) (true,[true,false]) _
 refine oJ (.step (false,[true,false]) (λK hK=>cT rfl ?_) (.done λK=>cF rfl ?_))
 ·refine oJ (.step (false,1,[true,false]) (λK hK=>?_) (.step (false,2,[true,false]) (λK hK=>?_) (.done λK=>?_)))
  ·exact cT rfl ⟨⟨by decide,by decide⟩,jh ⟨⟨by decide,by decide⟩,cT rfl ⟨⟨by decide,by decide⟩,cT rfl ⟨⟨by decide,by decide⟩,cF rfl ⟨qf (by decide),hK⟩⟩⟩⟩⟩
  ·exact cT rfl ⟨⟨by decide,by decide⟩,jh ⟨⟨by decide,by decide⟩,cF rfl (cF rfl ⟨qf (by decide),hK⟩)⟩⟩
  ·exact cF rfl hK
 intro isnil hnil
 refine aJ (λe=>absurd (hnil e) (by decide)) λ_=>⟨by decide,?_⟩
 show aH (σ:=Bool×List Bool) (true,[false,true]) _
 refine oJ (.step (true,[true,true]) (λK hK=>cT rfl ?_) (.step (false,[true,true]) (λK hK=>cT rfl ?_) (.done λK=>cF rfl ?_)))
 ·refine oJ (.step (true,1,[true,true]) (λK hK=>?_) (.step (true,2,[true,true]) (λK hK=>?_) (.done λK=>?_)))
  ·exact cT rfl ⟨⟨by decide,by decide⟩,jh ⟨⟨by decide,by decide⟩,cT rfl ⟨⟨by decide,by decide⟩,cT rfl ⟨⟨by decide,by decide⟩,qf (by decide),hK⟩⟩⟩⟩
  ·exact cT rfl ⟨⟨by decide,by decide⟩,jh ⟨⟨by decide,by decide⟩,cT rfl ⟨⟨by decide,by decide⟩,cF rfl ⟨qf (by decide),hK⟩⟩⟩⟩
  ·exact cF rfl hK
 ·refine oJ (.step (false,1,[true,true]) (λK hK=>?_) (.step (false,2,[true,true]) (λK hK=>?_) (.done λK=>?_)))
  ·exact cT rfl ⟨⟨by decide,by decide⟩,jh ⟨⟨by decide,by decide⟩,cT rfl ⟨⟨by decide,by decide⟩,cF rfl ⟨qf (by decide),hK⟩⟩⟩⟩
  ·exact cT rfl ⟨⟨by decide,by decide⟩,jh ⟨⟨by decide,by decide⟩,cT rfl ⟨⟨by decide,by decide⟩,cF rfl ⟨qf (by decide),hK⟩⟩⟩⟩
  ·exact cF rfl hK
 refine oJ (.step 1 (λK hK=>?_) (.step 2 (λK hK=>?_) (.done λK=>?_)))
 ·exact cT rfl ⟨⟨by decide,by decide⟩,jh (cT rfl ⟨⟨by decide,by decide⟩,cF rfl ⟨qf (by decide),hK⟩⟩)⟩
 ·exact cT rfl ⟨⟨by decide,by decide⟩,jh (cF rfl (cF rfl ⟨qf (by decide),hK⟩))⟩
 ·exact cF rfl h
theorem HA:Rp 10 (ay 1) 1:=.of ⟨by decide +kernel,by decide +kernel⟩ (by decide)
theorem Xq:Rp 10 (ay 3) 3:=.of ⟨by decide +kernel,by decide +kernel⟩ (by decide)
theorem CS {Q:List Int->List (List GRat)->Prop} (h:Q [0] [[ay (0+1)]]):hZ prC [true,false] false Q:=by
 unfold hZ
 refine⟨⟨by decide,by decide,by decide,by decide⟩,?_⟩
 show aH (σ:=Int×(List Int)×(List Int)) (0,[0,0],[]) _
 refine oJ (.step (1,[0,0],[0]) (λK hK=>?_) (.step (2,[0,0],[0]) (λK hK=>?_) (.done λK=>?_)))
 ·exact cT rfl ⟨⟨by decide,by decide⟩,cT rfl ⟨⟨by decide,by decide⟩,by decide,qf (by decide),hK⟩⟩
 ·exact cT rfl ⟨⟨by decide,by decide⟩,cF rfl ⟨qf (by decide),hK⟩⟩
 refine cF rfl ⟨⟨by decide,by decide,by decide,by decide⟩,?_⟩
 show aH (σ:=Int×(List (List GRat))) (0,[[]]) _
 refine oJ (.step (1,[[⟨false,[],[]⟩]]) (λK hK=>?_) (.done λK=>?_))
 ·exact cT rfl ⟨⟨by decide,by decide,by decide,by decide⟩,⟨by decide,by decide⟩,qf (by decide),hK⟩
 refine cF rfl ?_
 refine oJ (.step (1,[[ay (0+1)]]) (λK hK=>?_) (.step (2,[[ay (0+1)]]) (λK hK=>?_) (.done λK=>?_)))
 ·refine cT rfl ⟨⟨by decide,by decide⟩,⟨by decide,by decide⟩,cF rfl ⟨⟨by decide,by decide⟩,⟨by decide,by decide⟩,⟨by decide,by decide⟩,⟨by decide,by decide⟩,?_⟩⟩
  refine oU (.zero (k:=1) (by decide) (by decide)) HA (by decide) λ_=>?_
  exact⟨⟨by decide,by decide⟩,⟨by decide,by decide⟩,cT rfl ⟨qf (by decide),hK⟩⟩
 ·exact cT rfl ⟨⟨by decide,by decide⟩,⟨by decide,by decide⟩,cT rfl ⟨qf (by decide),hK⟩⟩
 exact cF rfl h
theorem Rp.eq {B:Nat} {a:GRat} {q:Rat} (h:Rp B a q) (hq:q≠0):a=ay q:=by
 obtain⟨_,e,_⟩:=h
 by_cases ho:okR a=true
 ·rw[<-e];exact nF ho
 ·unfold aF at e
  rw[if_neg ho] at e
  exact absurd e.symm hq
theorem FU {Q:List GRat->Option Int->Prop} (h:Q [ay 1,⟨false,[],[]⟩] none):iP prC Q:=by
 unfold iP lN
 refine HH (cF rfl ⟨⟨by decide,by decide,by decide,by decide⟩,CS (cF rfl ⟨⟨by decide,by decide,by decide,by decide⟩,?_⟩)⟩)
 show aH (σ:=Int×(List GRat)) (0,[⟨false,[],[]⟩]) _
 refine oJ (.step (1,[ay ((1:Int):Rat)]) (λK hK=>?_) (.done λK=>cF rfl ?_))
 ·exact cT rfl ⟨⟨by decide,by decide⟩,jh (cT rfl (cT rfl (RR zRg λ_=>⟨⟨by decide,by decide⟩,qf (by decide),hK⟩)))⟩
 have e1:(0:Rat)+1=1:=Rat.zero_add 1
 rw[e1]
 have e2:((1:Int):Rat)=1:=rfl
 rw[e2]
 have v1:Vr 64 1 [ay 1] (λ_=>1):=⟨rfl,λj hj=>by
  obtain rfl:j=0:=om
  exact HA.mono (by decide)⟩
 refine oM (n:=1) (B:=64) (M:=λ_ _=>1) (w:=λ_=>1) (x:=λ_=>1) ⟨rfl,λi hi=>by
  obtain rfl:i=0:=om
  exact v1⟩ v1 (by decide) (by decide) (by decide) (by decide) (λi _=>by rw[aB,aB];decide +kernel) (λy hy j hj=>by
  obtain rfl:j=0:=om
  have:=hy 0 (by decide)
  rw[aB,aB,Rat.zero_add,Rat.one_mul] at this
  exact this) λl hl=>?_
 have hl0:=(hl.2 0 (by decide)).eq (by decide)
 have hll:=hl.1
 refine cF rfl ?_
 show aH (σ:=Int×(List GRat)) (0,[⟨false,[],[]⟩,⟨false,[],[]⟩]) _
 refine oJ (.step (1,[ay 1,⟨false,[],[]⟩]) (λK hK=>?_) (.done λK=>?_))
 ·refine cT rfl ⟨⟨by decide,by decide⟩,⟨by decide,om⟩,⟨by decide,by decide⟩,qf (by decide),?_⟩
  have e3:at' l 0=ay 1:=hl0
  rw[e3]
  exact hK
 ·exact cF rfl h
theorem RE:dq (ay 1)=true:=by unfold dq;rw[je,aU];decide +kernel
theorem RD:dq (ay 3)=true:=by unfold dq;rw[je,aU];decide +kernel
theorem abN:PX [ay 1] [ay 3]:=by
 refine⟨λi hi=>?_,λi hi=>?_,rfl,by decide,by decide,λi hi=>?_⟩
 ·obtain rfl:i=0:=by simp at hi;omega
  exact⟨HA.1,by show RB 10 (aF (ay 1));rw[aU];exact HA.2.2⟩
 ·obtain rfl:i=0:=by simp at hi;omega
  exact⟨Xq.1,by show RB 10 (aF (ay 3));rw[aU];exact Xq.2.2⟩
 ·obtain rfl:i=0:=by simp at hi;omega
  refine⟨⟨RE,RD⟩,?_⟩
  show aF (ay 1)+aF (ay 3)≠0
  rw[aU,aU]
  decide +kernel
theorem RK:pcC [ay 1] [ay 3] [false,true]=prC:=by
 have g0:iG [ay 1] [ay 3] 0 0=true:=ly.2 (by show 0<aF (ay 1);rw[aU];decide +kernel)
 have g1:iG [ay 1] [ay 3] 1 0=true:=ly.2 (by show 0<aF (ay 3);rw[aU];decide +kernel)
 have e:mvs [ay 1] [ay 3] 1 2=[⟨0,1,ay 1⟩,⟨1,0,ay 3⟩]:=by
  have b0:dnP [ay 1] [ay 3] 0 1 1=[]:=rfl
  have b1:up [ay 1] [ay 3] 0 1=[⟨0,1,ay 1⟩]:=by
   rw[up,if_pos ⟨by decide,g0⟩];rfl
  have b2:dnP [ay 1] [ay 3] 1 1 1=[⟨1,0,ay 3⟩]:=by
   rw[dnP,if_pos ⟨by decide,g1⟩];rfl
  have b3:up [ay 1] [ay 3] 1 1=[]:=by
   rw[up,if_neg (by decide)];rfl
  rw[mvs,mvs,mvs,b0,b1,b2,b3]
  rfl
 show(⟨((2^1:Nat):Int),0,mvs [ay 1] [ay 3] 1 (2^1),[false,true]⟩:GChain)=prC
 rw[show(2^1:Nat)=2 from rfl,e]
 rfl
theorem HI {Q:List GRat->Option Int->Prop} (h:∀l:List GRat,l.length=2->at' l 1=ay (1 / 4)->Q l none):cE prC Q:=by
 rw[<-RK]
 have e:pr (ba [ay 1] [ay 3]) [ay 1].length 1=1 / 4:=by
  show pr (ba [ay 1] [ay 3]) 1 1=1 / 4
  rw[pr,pr,if_neg (by decide)]
  show 1*(aF (ay 1) / (aF (ay 1)+aF (ay 3)))=1 / 4
  rw[aU,aU]
  decide +kernel
 refine zp abN rfl λl hl=>h l hl.1 ?_
 have e2:=hl.2 1 (by decide)
 rw[e] at e2
 exact e2.eq (by decide +kernel)
def oT (f:GFormula):Nat->Nat
 | 0=>0
 | k+1=>oT f k+(at' f.N (k:Int)).M.length
theorem yK {f:GFormula} {Q:Bool->Prop} (ht:rng f.Z) (hl:f.N.length<=9223372036854775807) (hs:∀k,k<=f.N.length->oT f k<=9223372036854775807) (h:∀b,(b=true->jQ f=0)->Q b):jE f Q:=by
 unfold jE ot
 have hf:Q false:=h false λe=>by cases e
 refine ig (n:=f.N.length) (λi=>((oT f i:Int),(i:Int))) (λy=>y.2) 0 (λi=>by dsimp only;omega) rfl ?_ ?_
 ·intro i next hi hn
  have h1:=hs (i+1) om
  rw[oT] at h1
  refine condT (λ_=>⟨⟨om,om⟩,zRg,zRg,?_⟩) (λhh=>absurd (show(i:Int)<(f.N.length:Int) by omega) hh)
  have e:((oT f (i+1):Nat):Int)=(oT f i:Int)+((at' f.N (i:Int)).M.length:Int):=by rw[oT];omega
  rw[e] at hn
  exact hn
 ·intro next
  refine condT (λhh=>absurd hh om) λ_=>?_
  refine condT (λ_=>aJ (λe=>by cases e) λ_=>hf) λ_=>condT (λ_=>aJ (λe=>by cases e) λ_=>hf) λ_=>aJ (λ_=>wp ht (h _ λe=>by simpa using e)) λ_=>hf
theorem CO:ay (1 / 4)=⟨false,[1],[4]⟩:=by
 have h1:¬(1 / 4:Rat).num=0:=by decide +kernel
 have h2:decide ((1 / 4:Rat).num<0)=false:=by decide +kernel
 have h3:lim (1 / 4:Rat).num.natAbs=[1]:=by decide +kernel
 have h4:lim (1 / 4:Rat).den=[4]:=by decide +kernel
 unfold ay
 rw[if_neg h1,h2,h3,h4]
theorem Xu:ay 1=⟨false,[1],[1]⟩:=by
 have h1:¬(1:Rat).num=0:=by decide +kernel
 have h2:decide ((1:Rat).num<0)=false:=by decide +kernel
 have h3:lim (1:Rat).num.natAbs=[1]:=by decide +kernel
 have h4:lim (1:Rat).den=[1]:=by decide +kernel
 unfold ay
 rw[if_neg h1,h2,h3,h4]
theorem F2 {Q:GChain->Prop} (h:Q prC):kS Q:=by
 unfold kS
 refine YA zRg λ_=>YA zRg λ_=>?_
 exact h
theorem we {Q:Bool->Prop} (h:Q true):fP Q:=by
 unfold fP
 refine F2 (HI λl hl he=>F2 (FU ?_))
 refine cT rfl (cT rfl (cT (by rw[hl];rfl) (cT rfl ⟨⟨by decide,om⟩,?_⟩)))
 rw[he,CO]
 refine Or.inl ⟨rfl,cT (by decide +kernel) ⟨⟨by decide,by decide⟩,Or.inr ⟨Xu,?_⟩⟩⟩
 dsimp only
 rw[show(ByteArray.toList ⟨#[49]⟩ == ByteArray.toList qI)=true by decide +kernel]
 exact h
end Go.Gg
