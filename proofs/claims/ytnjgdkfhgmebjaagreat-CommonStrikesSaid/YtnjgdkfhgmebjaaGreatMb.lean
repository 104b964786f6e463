/- Probabilities, Greek letters, the beta factor, totals: the program's and the reference's functions. Conditions: the numbers fit the machine. -/
import Derived.Test.YtnjgdkfhgmebjaaGreatMa
import Derived.Test.YtnjgdkfhgmebjaaGreatWa
import Derived.Test.YtnjgdkfhgmebjaaGreatGd2
namespace Go.Gg
theorem yD {α:Type} [Inhabited α] {f:Nat->α} {n i:Nat} (h:i<n):at' ((List.range n).map f) (i:Int)=f i:=by
 simp[at',List.getD_eq_getElem?_getD,h]
def dt (l:List GRat):Bool:=decide (∀i,i<l.length->ce (at' l (i:Int))=true)
theorem pF {p:GRat}:dt [p]=ce p:=by
 unfold dt
 cases h:ce p with
 | true=>refine decide_eq_true λi hi=>?_;match i with | 0=>exact h | i+1=>exact absurd hi (by simp)
 | false=>refine decide_eq_false λhh=>?_;have:ce p=true:=hh 0 (by simp);rw[h] at this;cases this
theorem pE {p q:GRat}:dt [p,q]=(ce p && ce q):=by
 unfold dt
 cases h:ce p && ce q with
 | true=>
  rw[Bool.and_eq_true] at h
  refine decide_eq_true λi hi=>?_
  match i with
  | 0=>exact h.1
  | 1=>exact h.2
  | i+2=>exact absurd hi (by simp)
 | false=>
  refine decide_eq_false λhh=>?_
  have h1:ce p=true:=hh 0 (by simp)
  have h2:ce q=true:=hh 1 (by simp)
  rw[h1,h2] at h;cases h
theorem s9 {a:GRat} (h:ce a=true):a=aM (a_ a)/\0<=a_ a/\a_ a<=1:=by
 unfold ce at h
 simp only[Bool.and_eq_true,decide_eq_true_eq] at h
 exact⟨nI h.1,h.2.1,h.2.2⟩
theorem gX {q:Rat}:ce (aM q)=(decide (0<=q) && decide (q<=1)):=by rw[ce,qY,cx,Bool.true_and]
theorem qV {l:List GRat} (h:dt l=true) {i:Nat} (hi:i<l.length):ce (at' l (i:Int))=true:=of_decide_eq_true h i hi
theorem eE {l:List GRat} {Q:Bool->Prop} (hl:l.length<=1099511627776) (hf:∀i:Nat,i<l.length->Fr (at' l (i:Int))) (h:Q (dt l)):dc l Q:=by
 show bn l _
 refine ko (λi=>ce (at' l (i:Int))=false) om (λi next hi hI hnx=>⟨⟨by omega,by omega⟩,oE (hf i hi) (bO (λhb=>?_) (λhb=>hnx (by simpa using hb)))⟩) (λhall=>?_)
 ·have:dt l=false:=decide_eq_false λhh=>by have:=hh i hi;rw[this] at hb;cases hb
  rw[this] at h
  show Q (!decide (0<=(i:Int)))
  rw[decide_eq_true om];exact h
 ·have:dt l=true:=decide_eq_true λi hi=>by simpa using hall i hi
  rw[this] at h;exact h
theorem jv {l:List GRat} {k:Nat} {Q:Bool->Prop} (hl:l.length<=1099511627776) (hf:∀i:Nat,i<l.length->Fr (at' l (i:Int))/\RB k (a_ (at' l (i:Int)))) (hk:k+65<=cap) (h:Q (dt l)):fh l Q:=by
 refine⟨λx=>∃i:Nat,x=i/\i<=l.length/\∀j:Nat,j<i->ce (at' l (j:Int))=true,λx=>l.length-x.toNat,⟨0,rfl,by omega,λj hj=>absurd hj om⟩,?_⟩
 rintro _ ⟨i,rfl,hi,hI⟩
 refine condT (λhc=>⟨⟨by omega,hc⟩,iC (hf i om).1 (hf i om).2 hk (bO (λhb=>?_) (λhb=>⟨by unfold rng;omega,⟨i+1,by omega,by omega,λj hj=>?_⟩,by dsimp only;omega⟩))⟩) (λhc=>?_)
 ·have:dt l=false:=decide_eq_false λhh=>by have:=hh i om;rw[this] at hb;cases hb
  rw[this] at h;exact h
 ·rcases Nat.lt_or_ge j i with h1 | h1
  ·exact hI j h1
  ·obtain rfl:j=i:=om
   simpa using hb
 ·have:dt l=true:=decide_eq_true λj hj=>hI j om
  rw[this] at h;exact h
def chz (n:Int):Nat->Int
 | 0=>1
 | x+1=>Int.tdiv (chz n x*(n-x)) (x+1)
theorem nU:∀n:Nat,n<4->∀x:Nat,x<4->(-1000<chz n x/\chz n x<1000)/\(-1000<chz n x*(n-x)/\chz n x*(n-x)<1000)/\(x<=n->0<chz n x):=by decide
theorem xw:∀n:Nat,n<4->∀x:Nat,x<4->(-1000<chz n (x+1)/\chz n (x+1)<1000):=by decide
theorem oq {n k:Nat} (hn:n<4) (hk:k<4) {Q:Int->Prop} (h:Q (chz n k)) :
  bg (σ:=Int×Int) (1,0) λ⟨out,x⟩ next1=>
  aj (decide (x<(k:Int)))
   (rng ((n:Int)-x)/\
   rng (out*((n:Int)-x))/\
   rng (x+1)/\
   ((x+1)≠0/\rng (Int.tdiv (out*((n:Int)-x)) (x+1)))/\
   rng (x+1)/\
   next1 ((Int.tdiv (out*((n:Int)-x)) (x+1)),(x+1)))
   (Q out):=by
 refine⟨λy=>∃x:Nat,x<=k/\y=(chz n x,(x:Int)),λy=>k-y.2.toNat,⟨0,by omega,rfl⟩,?_⟩
 rintro _ ⟨x,hx,rfl⟩
 refine condT (λhc=>?_) (λhc=>?_)
 ·have h1:=nU n hn x om
  have h2:=xw n hn x om
  exact⟨by unfold rng;omega,by unfold rng;omega,by unfold rng;omega,⟨by omega,by unfold rng;rw[show Int.tdiv (chz n x*((n:Int)-x)) (x+1)=chz n (x+1) from rfl];omega⟩,by unfold rng;omega,⟨x+1,by omega,rfl⟩,by dsimp only;omega⟩
 ·obtain rfl:x=k:=om
  exact h
theorem oN {n k:Nat} (hn:n<4) (hk:k<4) {Q:Int->Prop} (h:Q (chz n k)):ir n k Q:=oq hn hk h
theorem pf {n k:Nat} (hn:n<4) (hk:k<4) {Q:Int->Prop} (h:Q (chz n k)):iV n k Q:=oq hn hk h
theorem wM {a:GRat} {p:Rat} {k:Nat} {K:GRat->Prop} (ha:Rp k a p) (hk:k+65<=cap) (h:Rp (k+65) (aM (1-p)) (1-p)->K (aM (1-p))):cI (eO a) K:=by
 refine⟨aM (1-p),uN (by unfold rng;omega) λh1=>t4 h1 ha (by simp only[cap] at hk ⊢;omega) λ_=>rfl,h ?_⟩
 exact .of ((jd (fJ (n:=1) (by unfold rng;omega)) ha.2.2).mono om) hk
def kK (p:GRat) (f:List GRat):Nat->Rat
 | 0=>a_ p
 | k+1=>kK p f k*a_ (at' f (k:Int))
def qy (p:GRat) (f:List GRat) (k:Nat):Rat:=if k<f.length then kK p f k*(1-a_ (at' f (k:Int))) else kK p f k
def t9 (p:GRat) (f:List GRat) (k:Nat):Rat:=qy p f k / ((chz (f.length:Nat) k:Int):Rat)
def d8 (p:GRat) (f:List GRat):List GRat×Int:=
 if ce p=false\/dt f=false then ([],3) else if f.length<1\/3<f.length then ([],11)
 else ((List.range (f.length+1)).map (λk=>aM (t9 p f k)),0)
def Sh (a:GRat):Prop:=Rp 1281 a (a_ a)
def Shs (l:List GRat):Prop:=l.length<=60/\∀i:Nat,i<l.length->Sh (at' l (i:Int))
theorem mJ {p:GRat} {f:List GRat} (hp:Sh p) (hf:∀i:Nat,i<f.length->Sh (at' f (i:Int))):∀k,k<=f.length->RB (1281*(k+1)) (kK p f k)
 | 0,_=>hp.2.2
 | k+1,h=>(li (mJ hp hf k om) (hf k om).2.2).mono om
theorem t8 {p:GRat} {f:List GRat} (hp:Sh p) (hf:∀i:Nat,i<f.length->Sh (at' f (i:Int))) {k:Nat} (h:k<=f.length):RB (1281*(k+1)+1346) (qy p f k):=by
 unfold qy
 split
 ·rename_i hk
  exact(li (mJ hp hf k h) (jd (fJ (n:=1) (by unfold rng;omega)) (hf k hk).2.2)).mono om
 ·exact(mJ hp hf k h).mono om
theorem si {n k:Nat} (hn:n<4) (hk:k<4):rng (chz n k):=by
 have:=(nU n hn k hk).1
 unfold rng;omega
theorem zf {p:GRat} {f:List GRat} (hp:Sh p) (hf:∀i:Nat,i<f.length->Sh (at' f (i:Int))) {k:Nat} (h:k<=f.length) (h3:f.length<=3):RB (1281*(k+1)+1410) (t9 p f k):=
 (mC (t8 hp hf h) (fJ (si om om))).mono om
theorem xv {n k:Nat} (hn:n<4) (hk:k<=n):((chz n k:Int):Rat)≠0:=by
 have:=(nU n hn k om).2.2 hk
 intro e
 have h2:((chz n k:Int):Rat)=((0:Int):Rat):=e
 rw[Rat.intCast_inj] at h2
 omega
theorem rc {p:GRat} {f:List GRat} (hp:Sh p) (hf:∀i:Nat,i<f.length->Sh (at' f (i:Int))):∀i:Nat,i<(d8 p f).1.length->Rp 10000 (at' (d8 p f).1 (i:Int)) (t9 p f i):=by
 unfold d8
 intro i hi
 split at hi
 ·simp at hi
 ·split at hi
  ·simp at hi
  ·rename_i h1 h2
   rw[if_neg h1,if_neg h2]
   simp only[List.length_map,List.length_range] at hi
   show Rp 10000 (at' ((List.range (f.length+1)).map _) (i:Int)) _
   rw[yD hi]
   exact .of ((zf hp hf om om).mono om) (by decide)
set_option maxHeartbeats 1000000 in
theorem qq {p:GRat} {f:List GRat} {Q:List GRat->Int->Prop} (hp:Sh p) (hl:f.length<=60) (hf:∀i:Nat,i<f.length->Sh (at' f (i:Int))) (h:Q (d8 p f).1 (d8 p f).2):jw p f Q:=by
 refine⟨λy=>y=decide (ce p=false\/dt f=false),?_,?_⟩
 ·refine iC hp.1 hp.2.2 (by decide) (bO (λhc=>?_) (λhc=>jv om (λi hi=>⟨(hf i hi).1,(hf i hi).2.2⟩) (by decide) ?_))
  ·rw[decide_eq_true (Or.inl (by simpa using hc))]
  ·simp only[Bool.not_eq_false'] at hc
   rw[hc]
   cases dt f<;>rfl
 ·rintro _ rfl
  unfold d8 at h
  refine condT (λhc=>?_) (λhc=>?_)
  ·rw[if_pos hc] at h;exact h
  rw[if_neg hc] at h
  refine⟨λy=>y=decide (f.length<1\/3<f.length),?_,?_⟩
  ·refine condT (λh1=>?_) (λh1=>?_)
   ·rw[decide_eq_true (Or.inl om)]
   ·exact decide_eq_decide.2 om
  ·rintro _ rfl
   refine condT (λh1=>?_) (λh1=>?_)
   ·rw[if_pos h1] at h;exact h
   rw[if_neg h1] at h
   rw[not_or] at hc
   have hpo:=s9 (a:=p) (by simpa using hc.1)
   refine⟨by unfold rng;omega,?_⟩
   refine⟨λy=>∃k:Nat,k<=f.length+1/\y=((k:Int)+1,aM (kK p f (min k f.length)),(List.range k).map (λk=>aM (t9 p f k))),λy=>f.length+2-y.1.toNat,⟨0,by omega,?_⟩,?_⟩
   ·rw[Nat.zero_min,show aM (kK p f 0)=p from hpo.1.symm];rfl
   rintro _ ⟨k,hk,rfl⟩
   refine condT (λh2=>?_) (λh2=>?_)
   ·have hk2:k<=f.length:=om
    rw[Nat.min_eq_left hk2]
    have hr:=Rp.of (mJ hp hf k hk2) (show 1281*(k+1)<=cap by simp only[cap];omega)
    have hown:=Rp.of (t8 hp hf hk2) (show 1281*(k+1)+1346<=cap by simp only[cap];omega)
    have e1:((k:Int)+1-1)=(k:Int):=om
    have e2:((f.length:Int)+1-1)=((f.length:Nat):Int):=om
    refine⟨λy=>y=(aM (kK p f (min (k+1) f.length)),aM (qy p f k)),?_,?_⟩
    ·refine condT (λh3=>?_) (λh3=>?_)
     ·have h4:k<f.length:=om
      rw[e1]
      refine⟨by unfold rng;omega,⟨by omega,by omega⟩,wM (hf k h4) (by decide) λh5=>xa hr h5 (by simp only[cap];omega) λh6=>⟨by unfold rng;omega,⟨by omega,by omega⟩,xa hr (hf k h4) (by simp only[cap];omega) λh7=>?_⟩⟩
      rw[Nat.min_eq_left (show k+1<=f.length by omega),qy,if_pos h4]
      rfl
     ·have h4:k=f.length:=om
      rw[Nat.min_eq_right (show f.length<=k+1 by omega),qy,if_neg om,h4]
    ·rintro _ rfl
     rw[e1,e2]
     refine⟨by unfold rng;omega,by unfold rng;omega,⟨_,pf om om rfl,uN (si om om) λh5=>xp hown h5 (by simp only[cap];omega) (xv om om) λh6=>⟨by simp;omega,by unfold rng;omega,⟨k+1,by omega,?_⟩,by dsimp only;omega⟩⟩⟩
     rw[List.range_succ,List.map_append]
     rfl
   ·obtain rfl:k=f.length+1:=om
    exact h
end Go.Gg
namespace Go.Gg
theorem vk {p q:GRat} (hp:Sh p) (hq:Sh q):∀i:Nat,i < [p,q].length->Sh (at' [p,q] (i:Int)):=λi hi=>by
 match i with
 | 0=>exact hp
 | 1=>exact hq
 | i+2=>exact absurd hi (by simp)
set_option maxHeartbeats 1000000 in
theorem k9 {p:GRat} {f:List GRat} {Q:List GRat->Option Int->Prop} (hp:Sh p) (hl:f.length<=60) (hf:∀i:Nat,i<f.length->Sh (at' f (i:Int))) (h:Q (d8 p f).1 (m_ (d8 p f).2)):gh p f Q:=by
 refine⟨λy=>y=decide (ce p=false\/dt f=false),?_,?_⟩
 ·refine eE (by simp) (λi hi=>?_) (bO (λhc=>?_) (λhc=>eE om (λi hi=>(hf i hi).1) ?_))
  ·match i with
   | 0=>exact hp.1
   | i+1=>exact absurd hi (by simp)
  ·rw[pF] at hc
   rw[decide_eq_true (Or.inl (by simpa using hc))]
  ·rw[pF] at hc
   simp only[Bool.not_eq_false'] at hc
   rw[hc]
   cases dt f<;>rfl
 ·rintro _ rfl
  unfold d8 at h
  refine condT (λhc=>?_) (λhc=>?_)
  ·rw[if_pos hc] at h;exact h
  rw[if_neg hc] at h
  refine⟨λy=>y=decide (f.length<1\/3<f.length),?_,?_⟩
  ·refine condT (λh1=>?_) (λh1=>?_)
   ·rw[decide_eq_true (Or.inl om)]
   ·exact decide_eq_decide.2 om
  ·rintro _ rfl
   refine condT (λh1=>?_) (λh1=>?_)
   ·rw[if_pos h1] at h;exact h
   rw[if_neg h1] at h
   rw[not_or] at hc
   have hpo:=s9 (a:=p) (by simpa using hc.1)
   refine⟨by unfold rng;omega,?_⟩
   refine⟨λy=>∃k:Nat,k<=f.length+1/\y=((k:Int)+1,aM (kK p f (min k f.length)),(List.range k).map (λk=>aM (t9 p f k))),λy=>f.length+2-y.1.toNat,⟨0,by omega,?_⟩,?_⟩
   ·rw[Nat.zero_min,show aM (kK p f 0)=p from hpo.1.symm];rfl
   rintro _ ⟨k,hk,rfl⟩
   refine condT (λh2=>?_) (λh2=>?_)
   ·have hk2:k<=f.length:=om
    rw[Nat.min_eq_left hk2]
    have hr:=Rp.of (mJ hp hf k hk2) (show 1281*(k+1)<=cap by simp only[cap];omega)
    have hown:=Rp.of (t8 hp hf hk2) (show 1281*(k+1)+1346<=cap by simp only[cap];omega)
    have e1:((k:Int)+1-1)=(k:Int):=om
    have e2:((f.length:Int)+1-1)=((f.length:Nat):Int):=om
    refine⟨λy=>y=(aM (kK p f (min (k+1) f.length)),aM (qy p f k)),?_,?_⟩
    ·refine condT (λh3=>?_) (λh3=>?_)
     ·have h4:k<f.length:=om
      rw[e1]
      refine wV (by unfold rng;omega) λh0=>⟨by unfold rng;omega,⟨by omega,by omega⟩,t5 h0 (hf k h4) (by decide) λh5=>xb hr h5 (by simp only[cap];omega) λh6=>⟨by unfold rng;omega,⟨by omega,by omega⟩,xb hr (hf k h4) (by simp only[cap];omega) λh7=>?_⟩⟩
      rw[Nat.min_eq_left (show k+1<=f.length by omega),qy,if_pos h4]
      rfl
     ·have h4:k=f.length:=om
      rw[Nat.min_eq_right (show f.length<=k+1 by omega),qy,if_neg om,h4]
    ·rintro _ rfl
     rw[e1,e2]
     refine⟨by unfold rng;omega,by unfold rng;omega,⟨_,oN om om rfl,wV (si om om) λh5=>xq hown h5 (by simp only[cap];omega) (xv om om) λh6=>bO (λhh=>by cases hh) (λ_=>⟨by simp;omega,by unfold rng;omega,⟨k+1,by omega,?_⟩,by dsimp only;omega⟩)⟩⟩
     rw[List.range_succ,List.map_append]
     rfl
   ·obtain rfl:k=f.length+1:=om
    exact h
def gr (p b:GRat):GRat×GRat×Int:=
 if ce p=false\/ce b=false then (aM 0,aM 0,3)
 else if 1-a_ b*a_ p=0 then (aM 0,aM (a_ b*a_ p),0)
 else (aM ((a_ p-a_ b*a_ p) / (1-a_ b*a_ p)),aM (a_ b*a_ p),0)
theorem l0 {p b:GRat} {Q:GRat->GRat->Option Int->Prop} (hp:Sh p) (hb:Sh b) (h:Q (gr p b).1 (gr p b).2.1 (m_ (gr p b).2.2)):gR p b Q:=by
 unfold gr at h
 refine eE (by simp) (λi hi=>(vk hp hb i hi).1) ?_
 rw[pE]
 refine bO (λhc=>?_) (λhc=>?_)
 ·rw[if_pos (by cases h1:ce p<;>cases h2:ce b<;>simp_all)] at h;exact h
 rw[if_neg (by cases h1:ce p<;>cases h2:ce b<;>simp_all)] at h
 refine yS hb hp (by decide) λh1=>wV (by unfold rng;omega) λh2=>t5 h2 h1 (by decide) λh3=>y_ h3 (bS (λhz=>?_) (λhz=>?_))
 ·rw[if_pos (show 1-a_ b*a_ p=0 from lq.1 hz)] at h;exact h
 ·have hz2:1-a_ b*a_ p≠0:=λe=>hz (lq.2 e)
  rw[if_neg hz2] at h
  exact t5 hp h1 (by decide) λh4=>xq h4 h3 (by decide) hz2 λh5=>h
theorem rG {a:GRat} {p:Rat} {k:Nat} {Q:GRat->Prop} (ha:Rp k a p) (hk:k+65<=cap) (h:Rp (k+65) (aM (1-p)) (1-p)->Q (aM (1-p))):eO a Q:=by
 refine uN (by unfold rng;omega) λh1=>t4 h1 ha (by simp only[cap] at hk ⊢;omega) λh2=>h ?_
 exact .of ((jd (fJ (n:=1) (by unfold rng;omega)) ha.2.2).mono om) hk
theorem rH {p b:GRat} {Q:GRat->GRat->Int->Prop} (hp:Sh p) (hb:Sh b) (h:Q (gr p b).1 (gr p b).2.1 (gr p b).2.2):j4 p b Q:=by
 unfold gr at h
 refine⟨λy=>y=decide (ce p=false\/ce b=false),?_,?_⟩
 ·refine iC hp.1 hp.2.2 (by decide) (bO (λhc=>?_) (λhc=>iC hb.1 hb.2.2 (by decide) ?_))
  ·rw[decide_eq_true (Or.inl (by simpa using hc))]
  ·simp only[Bool.not_eq_false'] at hc
   rw[hc]
   cases ce b<;>rfl
 rintro _ rfl
 refine condT (λhc=>?_) (λhc=>?_)
 ·rw[if_pos hc] at h;exact h
 rw[if_neg hc] at h
 refine yR hb hp (by decide) λh1=>rG h1 (by decide) λh3=>wH h3 (bS (λhz=>?_) (λhz=>?_))
 ·rw[if_pos (lq.1 hz)] at h;exact h
 ·have hz2:1-a_ b*a_ p≠0:=λe=>hz (lq.2 e)
  rw[if_neg hz2] at h
  exact t4 hp h1 (by decide) λh4=>wM h1 (by decide) λh3=>xp h4 h3 (by decide) hz2 λh5=>h
end Go.Gg
namespace Go.Gg
theorem qD {x:GRat} {Q:Bool->Prop} (h:∀b,(b=true->x.Num.length<=40/\x.Den.length<=40)->Q b):jH x Q:=
 condT (λh1=>h _ λh2=>⟨by omega,by have:=of_decide_eq_true h2;omega⟩) (λ_=>h _ λhh=>by cases hh)
theorem z6 {a:GRat} (hw:WrR a) (h:a.Num.length<=40/\a.Den.length<=40):Sh a:=.self ⟨hw.1,hw.2,by omega,by omega⟩ ((yK hw.1 hw.2 h.1 h.2).mono om)
theorem lU {l:List GRat} {Q:Bool->Prop} (la:l.length<=9223372036854775807) (hw:WrL l) (h:∀b,(b=true->l.length<=60/\∀i:Nat,i<l.length->Sh (at' l (i:Int)))->Q b):gM l Q:=by
 refine ko (λi=>¬Sh (at' l (i:Int))) la (λi next hi hI hnx=>⟨⟨by omega,by omega⟩,qD λb hb=>bO (λ_=>h _ λhh=>by cases hh) (λhb2=>hnx (λhn=>hn (z6 (hw i hi) (hb (by simpa using hb2)))))⟩) (λhall=>h _ λhd=>⟨by have:=of_decide_eq_true hd;omega,λi hi=>Classical.not_not.1 (hall i hi)⟩)
theorem rT {n d:Int} {Q:GRat->Prop} (hn:rng n) (hd:rng d) (h0:d≠0) (h:Q (aM ((n:Rat) / (d:Rat)))):cd n d Q:=mM hn hd (λe=>absurd e h0) λ_=>h
theorem qJ {a:GRat} {k:Nat} {q:Rat} {Q:Bool->Prop} (ha:Rp k a q) (h:Q true):fB a a Q:=p_ ha.len.1 ha.len.2 (by rw[decide_eq_true rfl];exact h)
theorem gZ {n d:Int} (hn:n.natAbs<64) (hd:d.natAbs<64):Rp 12 (aM ((n:Rat) / (d:Rat))) ((n:Rat) / (d:Rat)):=by
 have h1:∀m:Int,m.natAbs<64->RB 6 (m:Rat):=λm hm=>xF om hm
 exact .of ((mC (h1 n hn) (h1 d hd)).mono om) (by decide)
theorem lf {q:Rat} {k:Nat} (h:Rp k (aM q) q) (hk:k<=1281):Sh (aM q):=by
 unfold Sh
 rw[cx]
 exact h.mono hk
theorem uq:gr (aM (((1:Int):Rat) / ((10:Int):Rat))) (aM (((1:Int):Rat) / ((2:Int):Rat)))=(aM (((1:Int):Rat) / ((19:Int):Rat)),aM (((1:Int):Rat) / ((20:Int):Rat)),0):=by
 unfold gr
 rw[gX,gX,cx,cx]
 rw[if_neg (by decide +kernel),if_neg (by decide +kernel)]
 have e1:(((1:Int):Rat) / ((10:Int):Rat)-((1:Int):Rat) / ((2:Int):Rat)*(((1:Int):Rat) / ((10:Int):Rat))) / (1-((1:Int):Rat) / ((2:Int):Rat)*(((1:Int):Rat) / ((10:Int):Rat)))=((1:Int):Rat) / ((19:Int):Rat):=by decide +kernel
 have e2:((1:Int):Rat) / ((2:Int):Rat)*(((1:Int):Rat) / ((10:Int):Rat))=((1:Int):Rat) / ((20:Int):Rat):=by decide +kernel
 rw[e1,e2]
theorem tQ:d8 (aM ((1:Int):Rat)) [aM (((1:Int):Rat) / ((2:Int):Rat)),aM (((1:Int):Rat) / ((3:Int):Rat))]=([aM (((1:Int):Rat) / ((2:Int):Rat)),aM (((1:Int):Rat) / ((6:Int):Rat)),aM (((1:Int):Rat) / ((6:Int):Rat))],0):=by
 have h2:dt [aM (((1:Int):Rat) / ((2:Int):Rat)),aM (((1:Int):Rat) / ((3:Int):Rat))]=true:=by
  rw[pE,gX,gX];decide +kernel
 have h1:ce (aM ((1:Int):Rat))=true:=by rw[gX];decide +kernel
 unfold d8
 rw[if_neg (by rw[h1,h2];simp),if_neg (by simp)]
 have key:∀(p:GRat) (f:List GRat),f.length=2->a_ p=1->a_ (at' f ((0:Nat):Int))=((1:Int):Rat) / ((2:Int):Rat)->a_ (at' f ((1:Nat):Int))=((1:Int):Rat) / ((3:Int):Rat)->
   (List.range (f.length+1)).map (λk=>aM (t9 p f k))=[aM (((1:Int):Rat) / ((2:Int):Rat)),aM (((1:Int):Rat) / ((6:Int):Rat)),aM (((1:Int):Rat) / ((6:Int):Rat))]:=by
  intro p f hl hp h0 h1
  have e:List.range 3=[0,1,2]:=rfl
  rw[hl,e]
  simp only[List.map_cons,List.map_nil,t9,qy,hl,kK,hp,h0,h1]
  have o0:(if 0<2 then 1*(1-((1:Int):Rat) / ((2:Int):Rat)) else 1) / ((chz ((2:Nat):Int) 0:Int):Rat)=((1:Int):Rat) / ((2:Int):Rat):=by decide +kernel
  have o1:(if 1<2 then 1*(((1:Int):Rat) / ((2:Int):Rat))*(1-((1:Int):Rat) / ((3:Int):Rat)) else 1*(((1:Int):Rat) / ((2:Int):Rat))) / ((chz ((2:Nat):Int) 1:Int):Rat)=((1:Int):Rat) / ((6:Int):Rat):=by decide +kernel
  have o2:(1*(((1:Int):Rat) / ((2:Int):Rat))*(((1:Int):Rat) / ((3:Int):Rat))) / ((chz ((2:Nat):Int) 2:Int):Rat)=((1:Int):Rat) / ((6:Int):Rat):=by decide +kernel
  rw[if_neg (show ¬2<2 by omega),o0,o1,o2]
 exact congrArg (λl=>(l,(0:Int))) (key _ _ rfl (cx _) (cx _) (cx _))
theorem lV {Q:Bool->Prop} (h:Q true):gN Q:=by
 have r:∀n:Int,n.natAbs<64->rng n:=λn hn=>by unfold rng;omega
 have pt:∀ {n d:Int} {Q:GRat->Prop},n.natAbs<64->d.natAbs<64->d≠0->Q (aM ((n:Rat) / (d:Rat)))->cd n d Q:=λh1 h2 h3 h4=>rT (r _ h1) (r _ h2) h3 h4
 refine pt (by decide) (by decide) (by decide) (pt (by decide) (by decide) (by decide) ?_)
 refine l0 (lf (gZ (by decide) (by decide)) om) (lf (gZ (by decide) (by decide)) om) ?_
 refine Ag (by unfold rng;omega) λh1=>pt (by decide) (by decide) (by decide) (pt (by decide) (by decide) (by decide) ?_)
 refine k9 (lf h1 om) (by simp) (vk (lf (gZ (by decide) (by decide)) om) (lf (gZ (by decide) (by decide)) om)) ?_
 rw[uq,tQ]
 refine bO (λ_=>bO (λ_=>?_) (λhh=>by cases hh)) (λhh=>by cases hh)
 have same:∀ {n d:Int} {K:Bool->Prop},n.natAbs<64->d.natAbs<64->K true->cI (fB (aM ((n:Rat) / (d:Rat))) (aM ((n:Rat) / (d:Rat)))) K:=λh1 h2 h3=>⟨true,qJ (gZ h1 h2) rfl,h3⟩
 refine⟨_,pt (by decide) (by decide) (by decide) rfl,same (by decide) (by decide) (bO (λ_=>?_) (λhh=>by cases hh))⟩
 refine⟨_,pt (by decide) (by decide) (by decide) rfl,same (by decide) (by decide) (bO (λ_=>?_) (λhh=>by cases hh))⟩
 refine⟨_,pt (by decide) (by decide) (by decide) rfl,_,pt (by decide) (by decide) (by decide) rfl,_,pt (by decide) (by decide) (by decide) rfl,true,p9 (by simp) (λi hi=>?_) rfl,h⟩
 match i with
 | 0=>exact(gZ (n:=1) (d:=2) (by decide) (by decide)).len
 | 1=>exact(gZ (n:=1) (d:=6) (by decide) (by decide)).len
 | 2=>exact(gZ (n:=1) (d:=6) (by decide) (by decide)).len
 | i+3=>exact absurd hi (by simp)
theorem sB {p b:GRat} (hp:Sh p) (hb:Sh b):(∃k q,Rp k (gr p b).1 q)/\∃k q,Rp k (gr p b).2.1 q:=by
 have h1:=li hb.2.2 hp.2.2
 unfold gr
 split
 ·exact⟨⟨1,0,.zero om (by decide)⟩,⟨1,0,.zero om (by decide)⟩⟩
 ·split
  ·exact⟨⟨1,0,.zero om (by decide)⟩,⟨_,_,.of h1 (by decide)⟩⟩
  ·exact⟨⟨_,_,.of (mC (jd hp.2.2 h1) (jd (fJ (n:=1) (by unfold rng;omega)) h1)) (by decide)⟩,⟨_,_,.of h1 (by decide)⟩⟩
end Go.Gg
namespace Go.Gg
theorem d_ {α:Type} [Inhabited α] {l:List α} {i:Nat} (h:i<l.length):l.take (i+1)=l.take i++[at' l (i:Int)]:=by
 rw[List.take_add_one,List.getElem?_eq_getElem h]
 simp[at',List.getD_eq_getElem?_getD,h]
theorem i7 {v:Int} {s:List Int}:v∈s↔∃i:Nat,i<s.length/\v=at' s (i:Int):=by
 rw[List.mem_iff_getElem]
 constructor
 ·rintro⟨i,hi,rfl⟩
  exact⟨i,hi,by simp[at',List.getD_eq_getElem?_getD,hi]⟩
 ·rintro⟨i,hi,rfl⟩
  exact⟨i,hi,by simp[at',List.getD_eq_getElem?_getD,hi]⟩
theorem uk {v:Int} {s:List Int} {Q:Bool->Prop} (hl:s.length<=9223372036854775807) (h:Q (decide (v∈s))):bX v s Q:=by
 unfold bX cU
 refine ko (λi=>v=at' s (i:Int)) hl (λi next hi hI hnx=>⟨⟨by omega,by omega⟩,bS (λhc=>?_) hnx⟩) (λhall=>?_)
 ·show Q (decide (0<=(i:Int)))
  rw[decide_eq_true (i7.2 ⟨i,hi,hc⟩)] at h
  rw[decide_eq_true om];exact h
 ·show Q false
  rw[decide_eq_false (λhm=>by obtain⟨i,hi,e⟩:=i7.1 hm;exact hall i hi e)] at h
  exact h
def mh (n:Nat) (ms g:List Int) (i:Nat):Int:=
 if at' g (i:Int)<0\/(n:Int)<=at' g (i:Int) then 10 else if at' g (i:Int)∈ms++g.take i then 6 else 0
def iy (g:GCauseGroup):Int:=if g.Kind=1 then 4 else 24
def my (g:GCauseGroup):Int:=if g.Kind=1 then (g.Members.length:Int)-1 else 1
def tJ (g:GCauseGroup) (p:List GRat) (ms:List Int):Int:=
 if g.Kind≠0/\g.Kind≠1 then 7
 else if g.Members.length<2\/iy g<g.Members.length\/(g.Factors.length:Int)≠my g then 11
 else if iq (mh p.length ms g.Members) g.Members.length≠0 then iq (mh p.length ms g.Members) g.Members.length
 else if dt g.Factors=false then 3
 else if ∃i<g.Members.length,a_ (at' p (at' g.Members (i:Int)))≠a_ (at' p (at' g.Members 0)) then 3 else 0
def ShG (g:GCauseGroup):Prop:=g.Members.length<=60/\Shs g.Factors
theorem rR {n:Nat} {ms g:List Int} {i:Nat} (h:mh n ms g i=0):0<=at' g (i:Int)/\at' g (i:Int)<n/\at' g (i:Int)∉ms++g.take i:=by
 unfold mh at h
 split at h
 ·cases h
 ·split at h
  ·cases h
  ·rename_i h1 h2
   exact⟨by omega,by omega,h2⟩
theorem ou {p:List GRat} (hp:Shs p) {i:Int} (h0:0<=i) (h1:i<p.length):Sh (at' p i):=by
 obtain⟨n,rfl⟩:=Int.eq_ofNat_of_zero_le h0
 exact hp.2 n om
theorem sub_zero {a b:Rat}:iS (a-b)=0↔a=b:=by
 rw[lq]
 exact⟨λh=>by rw[<-Rat.sub_add_cancel (a:=a) (b:=b),h,Rat.zero_add],λh=>by rw[h,Rat.sub_self]⟩
theorem lI {g:GCauseGroup} {p:List GRat} {ms:List Int} {Q:List Int->Option Int->Prop} (hg:ShG g) (hp:Shs p) (hm:ms.length<=1000000)
  (h:∀m,(tJ g p ms=0->m=ms++g.Members)->Q m (m_ (tJ g p ms))):dT g p ms Q:=by
 obtain⟨hg1,hg2⟩:=hg
 unfold tJ at h
 refine⟨λy=>y=decide (g.Kind≠0/\g.Kind≠1),eD (λh0=>?_) (λh0=>?_),?_⟩
 ·show(g.Kind != 1)=_
  rw[Bool.eq_iff_iff]
  simp[h0]
 ·show false=_
  simp[h0]
 rintro _ rfl
 refine condT (λhc=>?_) (λhc=>?_)
 ·rw[if_pos hc] at h;exact h _ (λhh=>by cases hh)
 rw[if_neg hc] at h
 refine⟨λy=>y=(iy g,my g),bS (λh0=>⟨by unfold rng;omega,by unfold iy my;rw[if_pos h0,if_pos h0]⟩) (λh0=>by unfold iy my;rw[if_neg h0,if_neg h0]),?_⟩
 rintro _ rfl
 refine⟨λy=>y=decide (g.Members.length<2\/iy g<g.Members.length\/(g.Factors.length:Int)≠my g),condT (λa=>(decide_eq_true (Or.inl om)).symm) (λa=>condT (λb=>(decide_eq_true (Or.inr (Or.inl b))).symm) (λb=>?_)),?_⟩
 ·show((g.Factors.length:Int) != my g)=_
  rw[Bool.eq_iff_iff,bne_iff_ne,decide_eq_true_iff]
  exact⟨λc=>Or.inr (Or.inr c),λc=>by
   rcases c with c | c | c
   ·exact absurd om a
   ·exact absurd c b
   ·exact c⟩
 rintro _ rfl
 refine condT (λhc2=>?_) (λhc2=>?_)
 ·rw[if_pos hc2] at h;exact h _ (λhh=>by cases hh)
 rw[if_neg hc2] at h
 refine eT (n:=g.Members.length) (λi y=>y=((i:Int),ms++g.Members.take i)/\∀j,j<i->mh p.length ms g.Members j=0) (λy=>y.1) 0 (λi y hy=>by rw[hy.1,Int.add_zero]) ⟨by rw[List.take_zero,List.append_nil];rfl,λj hj=>absurd hj om⟩ ?_ ?_
 ·rintro i _ next hi ⟨rfl,hI⟩ hn
  refine condT (λhc3=>⟨⟨by omega,by omega⟩,λy=>y=decide (at' g.Members (i:Int)<0\/(p.length:Int)<=at' g.Members (i:Int)),condT (λa=>(decide_eq_true (Or.inl a)).symm) (λa=>decide_eq_decide.2 ⟨Or.inr,λhh=>hh.resolve_left a⟩),?_⟩) (λhc3=>absurd (show(i:Int)<(g.Members.length:Int) by omega) hc3)
  rintro _ rfl
  refine condT (λa=>?_) (λa=>?_)
  ·have e:mh p.length ms g.Members i=10:=if_pos a
   have e1:=eB hI (by rw[e];decide) _ hi
   rw[e1,e,if_pos (by decide)] at h
   exact h _ (λhh=>by cases hh)
  refine uk (by simp;omega) (condT (λb=>?_) (λb=>?_))
  ·have e:mh p.length ms g.Members i=6:=by unfold mh;rw[if_neg a,if_pos b]
   have e1:=eB hI (by rw[e];decide) _ hi
   rw[e1,e,if_pos (by decide)] at h
   exact h _ (λhh=>by cases hh)
  refine⟨by simp;omega,by unfold rng;omega,hn _ ⟨?_,λj hj=>?_⟩⟩
  ·rw[d_ hi,List.append_assoc]
   rfl
  ·rcases Nat.lt_or_ge j i with h1 | h1
   ·exact hI j h1
   ·obtain rfl:j=i:=om
    unfold mh;rw[if_neg a,if_neg b]
 ·rintro _ next ⟨rfl,hI⟩
  refine condT (λhc3=>absurd (show(g.Members.length:Int)<(g.Members.length:Int) from hc3) om) (λ_=>?_)
  rw[if_neg (by rw[cr.2 hI];simp)] at h
  rw[List.take_length]
  refine eE (by have:=hg2.1;omega) (λi hi=>(hg2.2 i hi).1) (bO (λhb=>?_) (λhb=>?_))
  ·rw[if_pos (by simpa using hb)] at h;exact h _ (λhh=>by cases hh)
  rw[if_neg (by simpa using hb)] at h
  have hin:∀j,j<g.Members.length->0<=at' g.Members (j:Int)/\at' g.Members (j:Int)<p.length:=λj hj=>by have:=rR (hI j hj);exact⟨this.1,this.2.1⟩
  refine ko (λi=>a_ (at' p (at' g.Members (i:Int)))≠a_ (at' p (at' g.Members 0))) om (λi next hi hI2 hnx=>?_) (λhall=>?_)
  ·have h1:=hin i hi
   have h2:=hin 0 om
   refine⟨⟨by omega,by omega⟩,h1,⟨by omega,by omega⟩,h2,zt (ou hp h1.1 h1.2) (ou hp h2.1 h2.2) (by decide) (eD (λhne=>?_) (λhe=>?_))⟩
   ·rw[if_pos ⟨i,hi,λhh=>hne (sub_zero.2 hh)⟩] at h;exact h _ (λhh=>by cases hh)
   ·exact hnx (λhh=>hh (sub_zero.1 he))
  ·rw[if_neg (by rintro⟨i,hi,hb2⟩;exact hall i hi hb2)] at h
   exact h _ (λ_=>rfl)
theorem qp {f:GFormula} {g:GCauseGroup} {p:List GRat} {ms:List Int} {Q:Int->Prop} (hv:(p.length:Int)=f.Vars) (hg:ShG g) (hp:Shs p) (hm:ms.length<=1000000)
  (h:Q (tJ g p ms)):gx f p g ms Q:=by
 obtain⟨hg1,hg2⟩:=hg
 unfold tJ at h
 refine⟨λy=>y=(iy g,my g),bS (λh0=>⟨by unfold rng;omega,by unfold iy my;rw[if_pos h0,if_pos h0]⟩) (λh0=>by unfold iy my;rw[if_neg h0,if_neg h0]),?_⟩
 rintro _ rfl
 refine⟨λ_=>¬(g.Kind≠0/\g.Kind≠1),eD (λh0=>eD (λh1=>?_) (λh1=>λhh=>hh.2 h1)) (λh0=>λhh=>hh.1 h0),?_⟩
 ·rw[if_pos ⟨h0,h1⟩] at h;exact h
 rintro _ hc
 rw[if_neg hc] at h
 refine condT (λa=>?_) (λa=>condT (λb=>?_) (λb=>eD (λc=>?_) (λc=>?_)))
 ·rw[if_pos (Or.inl om)] at h;exact h
 ·rw[if_pos (Or.inr (Or.inl b))] at h;exact h
 ·rw[if_pos (Or.inr (Or.inr c))] at h;exact h
 rw[if_neg (λd=>d.elim (λd=>a om) (λd=>d.elim b (λd=>d c)))] at h
 refine⟨by simp;omega,?_⟩
 refine eT (n:=g.Members.length) (λi y=>y=((i:Int),ms++g.Members.take i)/\∀j,j<i->mh p.length ms g.Members j=0) (λy=>y.1) 0 (λi y hy=>by rw[hy.1,Int.add_zero]) ⟨by rw[List.take_zero,List.append_nil];rfl,λj hj=>absurd hj om⟩ ?_ ?_
 ·rintro i _ next hi ⟨rfl,hI⟩ hn
  have hit:∀ {e:Int},mh p.length ms g.Members i=e->e≠0->iq (mh p.length ms g.Members) g.Members.length=e:=λe he=>(eB hI (by rw[e];exact he) _ hi).trans e
  refine condT (λhc3=>⟨⟨by omega,by omega⟩,condT (λa2=>?_) (λa2=>condT (λa3=>?_) (λa3=>?_))⟩) (λhc3=>absurd (show(i:Int)<(g.Members.length:Int) by omega) hc3)
  ·rw[hit (if_pos (Or.inl a2)) (by decide),if_pos (by decide)] at h;exact h
  ·rw[hit (if_pos (Or.inr om)) (by decide),if_pos (by decide)] at h;exact h
  have a4:¬(at' g.Members (i:Int)<0\/(p.length:Int)<=at' g.Members (i:Int)):=om
  refine ko (λk=>at' (ms++g.Members.take i) (k:Int)=at' g.Members (i:Int)) (by simp;omega) (λk next2 hk hK hnx=>⟨⟨by omega,by omega⟩,bS (λb2=>?_) (λb2=>hnx b2)⟩) (λhall=>?_)
  ·have e:mh p.length ms g.Members i=6:=by unfold mh;rw[if_neg a4,if_pos (i7.2 ⟨k,hk,b2.symm⟩)]
   rw[hit e (by decide),if_pos (by decide)] at h;exact h
  have b3:at' g.Members (i:Int)∉ms++g.Members.take i:=λhh=>by obtain⟨k,hk,e⟩:=i7.1 hh;exact hall k hk e.symm
  refine⟨by simp;omega,by unfold rng;omega,hn _ ⟨?_,λj hj=>?_⟩⟩
  ·rw[d_ hi,List.append_assoc]
   rfl
  ·rcases Nat.lt_or_ge j i with h1 | h1
   ·exact hI j h1
   ·obtain rfl:j=i:=om
    unfold mh;rw[if_neg a4,if_neg b3]
 ·rintro _ next ⟨rfl,hI⟩
  refine condT (λhc3=>absurd (show(g.Members.length:Int)<(g.Members.length:Int) from hc3) om) (λ_=>?_)
  rw[if_neg (by rw[cr.2 hI];simp)] at h
  refine jv (k:=1281) (by have:=hg2.1;omega) (λi hi=>⟨(hg2.2 i hi).1,(hg2.2 i hi).2.2⟩) (by decide) (bO (λhb=>?_) (λhb=>?_))
  ·rw[if_pos (by simpa using hb)] at h;exact h
  rw[if_neg (by simpa using hb)] at h
  have hin:∀j,j<g.Members.length->0<=at' g.Members (j:Int)/\at' g.Members (j:Int)<p.length:=λj hj=>by have:=rR (hI j hj);exact⟨this.1,this.2.1⟩
  refine ko (λi=>a_ (at' p (at' g.Members (i:Int)))≠a_ (at' p (at' g.Members 0))) om (λi next hi hI2 hnx=>?_) (λhall=>?_)
  ·have h1:=hin i hi
   have h2:=hin 0 om
   refine⟨⟨by omega,by omega⟩,h1,⟨by omega,by omega⟩,h2,xu (ou hp h1.1 h1.2) (ou hp h2.1 h2.2) (by decide) (eD (λhne=>?_) (λhe=>?_))⟩
   ·rw[if_pos ⟨i,hi,λhh=>hne (sub_zero.2 hh)⟩] at h;exact h
   ·exact hnx (λhh=>hh (sub_zero.1 he))
  ·rw[if_neg (by rintro⟨i,hi,hb2⟩;exact hall i hi hb2)] at h
   exact h
end Go.Gg
namespace Go.Gg
theorem pX {e:Int} {A B:Prop} (h0:e≠0->A) (h1:e=0->B):aj (Option.isSome (m_ e)) A B:=by
 by_cases h:e=0
 ·rw[h];exact bO (λhc=>by cases hc) (λ_=>h1 h)
 ·refine bO (λ_=>h0 h) (λhc=>?_)
  unfold m_ at hc
  rw[if_neg h] at hc
  cases hc
def bE (gs:List GCauseGroup) (k:Nat):List Int:=(gs.take k).flatMap (·.Members)
theorem fy {gs:List GCauseGroup} {k:Nat} (h:k<gs.length):bE gs (k+1)=bE gs k++(at' gs (k:Int)).Members:=by
 unfold bE
 rw[d_ h,List.flatMap_append]
 simp
def uu (gs:List GCauseGroup):Prop:=gs.length<=30/\∀i:Nat,i<gs.length->ShG (at' gs (i:Int))
theorem jR {gs:List GCauseGroup} (h:uu gs):∀k,k<=gs.length->(bE gs k).length<=60*k
 | 0,_=>by simp[bE]
 | k+1,hk=>by
  rw[fy om,List.length_append]
  have:=jR h k om
  have:=(h.2 k om).1
  omega
def cgE (gs:List GCauseGroup) (p:List GRat) (k:Nat):Int:=tJ (at' gs (k:Int)) p (bE gs k)
def l5 (f:GFormula) (p:List GRat) (gs:List GCauseGroup):Int:=
 if oQ f≠0 then oQ f else if (p.length:Int)≠f.Vars then 11 else if dt p=false then 3 else iq (cgE gs p) gs.length
theorem p4 {f:GFormula} {p:List GRat} {gs:List GCauseGroup} {Q:Option Int->Prop} (ht:rng f.Top) (hp:Shs p) (hg:uu gs) (h:Q (m_ (l5 f p gs))):ja f p gs Q:=by
 unfold l5 at h
 have g30:=hg.1
 refine io ht (pX (λh0=>?_) (λh0=>?_))
 ·rw[if_pos h0] at h;exact h
 rw[if_neg (λhh=>hh h0)] at h
 refine eD (λa=>?_) (λa=>?_)
 ·rw[if_pos a] at h;exact h
 rw[if_neg (λhh=>hh a)] at h
 refine eE (by have:=hp.1;omega) (λi hi=>(hp.2 i hi).1) (bO (λb=>?_) (λb=>?_))
 ·rw[if_pos (by simpa using b)] at h;exact h
 rw[if_neg (by simpa using b)] at h
 refine eT (n:=gs.length) (λi y=>y=((i:Int),bE gs i)/\∀j,j<i->cgE gs p j=0) (λy=>y.1) 0 (λi y hy=>by rw[hy.1,Int.add_zero]) ⟨rfl,λj hj=>absurd hj om⟩ ?_ ?_
 ·rintro i _ next hi ⟨rfl,hI⟩ hn
  refine condT (λhc=>⟨⟨by omega,by omega⟩,lI (hg.2 i hi) hp (by have:=jR hg i om;omega) (λm hm=>pX (λe=>?_) (λe=>?_))⟩) (λhc=>absurd (show(i:Int)<(gs.length:Int) by omega) hc)
  ·rw[eB hI e _ hi] at h;exact h
  ·refine⟨by unfold rng;omega,hn _ ⟨by rw[hm e,fy hi];rfl,λj hj=>?_⟩⟩
   rcases Nat.lt_or_ge j i with h1 | h1
   ·exact hI j h1
   ·obtain rfl:j=i:=om
    exact e
 ·rintro _ next ⟨rfl,hI⟩
  refine condT (λhc3=>absurd (show(gs.length:Int)<(gs.length:Int) from hc3) om) (λ_=>?_)
  rw[cr.2 hI] at h;exact h
theorem qr {f:GFormula} {p:List GRat} {gs:List GCauseGroup} {Q:Int->Prop} (ht:rng f.Top) (hp:Shs p) (hg:uu gs) (h:Q (l5 f p gs)):jx f p gs Q:=by
 unfold l5 at h
 have g30:=hg.1
 refine qt ht (eD (λh0=>?_) (λh0=>?_))
 ·rw[if_pos h0] at h;exact h
 rw[if_neg (λhh=>hh h0)] at h
 refine eD (λa=>?_) (λa=>?_)
 ·rw[if_pos a] at h;exact h
 rw[if_neg (λhh=>hh a)] at h
 refine jv (k:=1281) (by have:=hp.1;omega) (λi hi=>⟨(hp.2 i hi).1,(hp.2 i hi).2.2⟩) (by decide) (bO (λb=>?_) (λb=>?_))
 ·rw[if_pos (by simpa using b)] at h;exact h
 rw[if_neg (by simpa using b)] at h
 refine eT (n:=gs.length) (λi y=>y=((i:Int),bE gs i)/\∀j,j<i->cgE gs p j=0) (λy=>y.1) 0 (λi y hy=>by rw[hy.1,Int.add_zero]) ⟨rfl,λj hj=>absurd hj om⟩ ?_ ?_
 ·rintro i _ next hi ⟨rfl,hI⟩ hn
  have ml:=jR hg i om
  refine condT (λhc=>⟨⟨by omega,by omega⟩,qp a (hg.2 i hi) hp om (eD (λe=>?_) (λe=>?_))⟩) (λhc=>absurd (show(i:Int)<(gs.length:Int) by omega) hc)
  ·rw[eB hI e _ hi] at h;exact h
  ·refine⟨by have:=(hg.2 i hi).1;rw[List.length_append];omega,by unfold rng;omega,hn _ ⟨by rw[fy hi];rfl,λj hj=>?_⟩⟩
   rcases Nat.lt_or_ge j i with h1 | h1
   ·exact hI j h1
   ·obtain rfl:j=i:=om
    exact e
 ·rintro _ next ⟨rfl,hI⟩
  refine condT (λhc3=>absurd (show(gs.length:Int)<(gs.length:Int) from hc3) om) (λ_=>?_)
  rw[cr.2 hI] at h;exact h
theorem i_ {x:GRat} {Q:GRat->Prop} (h1:x.Num.length<=1099511627776) (h2:x.Den.length<=1099511627776) (h:Q x):eF x Q:=by
 have cl:∀l:List Int,l.length<=1099511627776->bY l λy=>y=l:=λl hl b hb=>by
  refine bO (λh=>(hb h).symm) (λ_=>⟨by simp;omega,by simp⟩)
 exact⟨_,cl _ h1,_,cl _ h2,h⟩
structure GOK (g:GCauseGroup) (p:List GRat) (ms:List Int):Prop where
 kind:g.Kind=0\/g.Kind=1
 two:2<=g.Members.length
 most:(g.Members.length:Int)<=iy g
 fac:(g.Factors.length:Int)=my g
 mem:∀i,i<g.Members.length->0<=at' g.Members (i:Int)/\at' g.Members (i:Int)<p.length/\at' g.Members (i:Int)∉ms++g.Members.take i
 prob:dt g.Factors=true
theorem GOK.of {g:GCauseGroup} {p:List GRat} {ms:List Int} (h:tJ g p ms=0):GOK g p ms:=by
 unfold tJ at h
 split at h
 ·cases h
 rename_i a
 split at h
 ·cases h
 rename_i b
 split at h
 ·rename_i c;exact absurd h c
 rename_i c
 split at h
 ·cases h
 rename_i d
 clear h
 exact⟨by omega,by omega,by omega,by omega,λi hi=>rR (cr.1 (by simpa using c) i hi),by simpa using d⟩
def fp (s n:Nat):Nat:=((List.range n).filter (λi=>inS s i)).length
def e8 (ms:List Int) (s:Nat):List Int:=((List.range ms.length).filter (λi=>inS s i)).map (λi:Nat=>at' ms (i:Int))
def bb (g:GCauseGroup):List Nat:=if g.Kind=0 then [2^g.Members.length-1] else (List.range (2^g.Members.length)).filter (λs=>decide (1<fp s g.Members.length))
def pI (g:GCauseGroup) (p:GRat):GRat:=if g.Kind=0 then (gr p (at' g.Factors 0)).1 else at' (d8 p g.Factors).1 0
def kf (g:GCauseGroup) (p:GRat) (s:Nat):GRat:=if g.Kind=0 then (gr p (at' g.Factors 0)).2.1 else at' (d8 p g.Factors).1 ((fp s g.Members.length:Int)-1)
theorem wE {ms:List Int} {s:Nat}:(e8 ms s).length=fp s ms.length:=List.length_map ..
theorem nh {s n:Nat}:fp s n<=n:=by
 unfold fp
 have:=List.length_filter_le (λi=>inS s i) (List.range n)
 rwa[List.length_range] at this
theorem xi {n i:Nat} (h:i<n):inS (2^n-1) i=true:=by
 rw[gP,Nat.testBit_two_pow_sub_one,decide_eq_true h]
theorem wN {ms:List Int}:(List.range ms.length).map (λi:Nat=>at' ms (i:Int))=ms:=by
 refine List.ext_getElem (by simp) (λi h1 h2=>?_)
 simp[at',List.getD_eq_getElem?_getD,h2]
theorem vu {ms:List Int}:e8 ms (2^ms.length-1)=ms:=by
 unfold e8
 rw[List.filter_eq_self.2 (λi hi=>xi (List.mem_range.1 hi)),wN]
theorem eC {p:Nat->Bool} {i:Nat}:(List.range (i+1)).filter p=(List.range i).filter p++(if p i then [i] else []):=by
 rw[List.range_succ,List.filter_append]
 cases h:p i<;>simp[h]
theorem u_ {g:GCauseGroup} {p:List GRat} {q:GRat} {ms:List Int} (hg:GOK g p ms) (h0:g.Kind=0) (hq:ce q=true):(gr q (at' g.Factors 0)).2.2=0:=by
 have l1:(g.Factors.length:Int)=1:=by have:=hg.fac;unfold my at this;rwa[if_neg om] at this
 have hb:ce (at' g.Factors 0)=true:=qV hg.prob (i:=0) om
 unfold gr
 rw[if_neg (by rw[hq,hb];simp)]
 split<;>rfl
theorem pT {g:GCauseGroup} {p:List GRat} {q:GRat} {ms:List Int} (hg:GOK g p ms) (h0:g.Kind=1) (hq:ce q=true):(d8 q g.Factors).2=0/\(d8 q g.Factors).1.length=g.Members.length/\g.Members.length<=4:=by
 have l1:(g.Factors.length:Int)=(g.Members.length:Int)-1:=by have:=hg.fac;unfold my at this;rwa[if_pos h0] at this
 have l2:(g.Members.length:Int)<=4:=by have:=hg.most;unfold iy at this;rwa[if_pos h0] at this
 have l3:=hg.two
 unfold d8
 rw[if_neg (by rw[hq,hg.prob];simp),if_neg om]
 exact⟨rfl,by simp;omega,by omega⟩
theorem oO {g:GCauseGroup} {p:List GRat} {q:GRat} {ms:List Int} {Q:List Gcause->GRat->Option Int->Prop} (hs:ShG g) (hg:GOK g p ms) (hp:Sh q) (hq:ce q=true)
  (h:Q ((bb g).map (λs=>⟨kf g q s,e8 g.Members s⟩)) (pI g q) none):iu g q Q:=by
 obtain⟨hs1,hs2⟩:=hs
 refine bS (λh0=>?_) (λh0=>?_)
 ·have l1:(g.Factors.length:Int)=1:=by have:=hg.fac;unfold my at this;rwa[if_neg om] at this
  have be:=u_ hg h0 hq
  unfold bb pI kf at h
  rw[if_pos h0,if_pos h0] at h
  simp only[List.map_cons,List.map_nil,if_pos h0,vu] at h
  refine⟨⟨by omega,by omega⟩,_,_,_,l0 hp (ou hs2 om om) ⟨rfl,rfl,rfl⟩,?_⟩
  rw[be]
  exact h
 have h1:g.Kind=1:=hg.kind.resolve_left h0
 obtain⟨ge,gl,g4⟩:=pT hg h1 hq
 refine k9 hp (by have:=hs2.1;omega) hs2.2 (pX (λe=>absurd ge e) (λ_=>?_))
 have g2:=hg.two
 have pw:2^g.Members.length<=2^4:=Nat.pow_le_pow_right om g4
 have sh:=nz (n:=g.Members.length) om
 unfold bb pI at h
 rw[if_neg h0,if_neg h0] at h
 refine⟨sh,?_⟩
 rw[show(1*2^(Int.toNat (g.Members.length:Int)):Int)=((2^g.Members.length:Nat):Int) by simp]
 let F:Nat->Gcause:=λs=>⟨kf g q s,e8 g.Members s⟩
 have FL:∀i,(((List.range i).filter (λs=>decide (1<fp s g.Members.length))).map F).length<=i:=λi=>by
  rw[List.length_map]
  have:=List.length_filter_le (λs=>decide (1<fp s g.Members.length)) (List.range i)
  rwa[List.length_range] at this
 refine ik (n:=2^g.Members.length) (λi=>((i:Int),((List.range i).filter (λs=>decide (1<fp s g.Members.length))).map F)) (λy=>y.1) 0 (λi=>by simp) rfl (λi next hi hn=>?_) (λnext=>?_)
 ·refine condT (λ_=>?_) (λhc=>absurd (show(i:Int)<((2^g.Members.length:Nat):Int) by omega) hc)
  refine ik (n:=g.Members.length) (λj=>((j:Int),((List.range j).filter (λk=>inS i k)).map (λk:Nat=>at' g.Members (k:Int)))) (λy=>y.1) 0 (λj=>by simp) rfl (λj next2 hj hn2=>?_) (λnext2=>?_)
  ·refine condT (λ_=>⟨⟨by omega,by omega⟩,⟨by omega,by omega⟩,?_⟩) (λhc=>absurd (show(j:Int)<(g.Members.length:Int) by omega) hc)
   have ll:=List.length_filter_le (λk=>inS i k) (List.range j)
   rw[List.length_range] at ll
   rw[sj om]
   refine bO (λhb=>?_) (λhb=>?_)
   ·refine⟨by rw[List.length_append,List.length_map];simp;omega,by unfold rng;omega,?_⟩
    rw[eC,hb,if_pos rfl,List.map_append] at hn2
    exact hn2
   ·refine⟨by unfold rng;omega,?_⟩
    rw[eC,hb,if_neg (by simp),List.append_nil] at hn2
    exact hn2
  ·refine condT (λhc=>absurd (show(g.Members.length:Int)<(g.Members.length:Int) from hc) om) (λ_=>?_)
   have cl:((((List.range g.Members.length).filter (λk=>inS i k)).map (λk:Nat=>at' g.Members (k:Int))).length:Int)=(fp i g.Members.length:Nat):=by rw[List.length_map];rfl
   have c4:=nh (s:=i) (n:=g.Members.length)
   have fl:=FL i
   have hn3:=hn
   rw[eC] at hn3
   rw[cl]
   refine condT (λhc=>?_) (λhc=>?_)
   ·rw[if_pos (by simpa using (show 1<fp i g.Members.length by omega)),List.map_append] at hn3
    have e:F i=⟨at' (d8 q g.Factors).1 ((fp i g.Members.length:Int)-1),e8 g.Members i⟩:=by
     show(⟨kf g q i,e8 g.Members i⟩:Gcause)=_
     unfold kf
     rw[if_neg h0]
    refine⟨by unfold rng;omega,⟨by omega,by omega⟩,by rw[List.length_append];simp only[List.length_cons,List.length_nil];omega,by unfold rng;omega,?_⟩
    rw[List.map_cons,List.map_nil,e] at hn3
    exact hn3
   ·rw[if_neg (by simpa using (show ¬1<fp i g.Members.length by omega)),List.append_nil] at hn3
    exact⟨by unfold rng;omega,hn3⟩
 ·refine condT (λhc=>absurd (show((2^g.Members.length:Nat):Int)<((2^g.Members.length:Nat):Int) from hc) om) (λ_=>⟨⟨by omega,by omega⟩,h⟩)
end Go.Gg
namespace Go.Gg
theorem yC {s k:Nat} (hx:s<4294967296):bits .and .i64 ((s:Int) / 2^(Int.toNat (k:Int))) 1=if inS s k then 1 else 0:=by
 have e:((s:Int) / 2^(Int.toNat (k:Int)))=((s / 2^k:Nat):Int):=by rw[Int.toNat_natCast];simp
 have:=Nat.div_le_self s (2^k)
 unfold inS
 rw[e]
 generalize s / 2^k=z at this
 rw[qc om om]
 by_cases h:z % 2=1
 ·rw[decide_eq_true h,if_pos rfl];omega
 ·rw[decide_eq_false h,if_neg (by simp)];omega
theorem rk {n:Nat}:fp 0 n=0:=by
 unfold fp
 rw[List.length_eq_zero_iff,List.filter_eq_nil_iff]
 intro i _
 simp[inS]
theorem v6 {s n:Nat}:fp s (n+1)=fp s n+if inS s n then 1 else 0:=by
 unfold fp
 rw[eC,List.length_append]
 cases inS s n<;>rfl
theorem pg {g:GCauseGroup} {p:List GRat} {q:GRat} {ms:List Int} {Q:List Int->List GRat->GRat->Prop} (hs:ShG g) (hg:GOK g p ms) (hp:Sh q) (hq:ce q=true)
  (h:Q ((bb g).map (λs:Nat=>(s:Int))) ((bb g).map (kf g q)) (pI g q)):iW g q Q:=by
 obtain⟨hs1,hs2⟩:=hs
 have mo:iy g<=24:=by unfold iy;split<;>omega
 have g24:=hg.most
 refine bS (λh0=>?_) (λh0=>?_)
 ·have l1:(g.Factors.length:Int)=1:=by have:=hg.fac;unfold my at this;rwa[if_neg om] at this
  have be:=u_ hg h0 hq
  unfold bb pI at h
  rw[if_pos h0,if_pos h0] at h
  have e1:kf g q (2^g.Members.length-1)=(gr q (at' g.Factors 0)).2.1:=by unfold kf;rw[if_pos h0]
  rw[List.map_cons,List.map_nil,List.map_cons,List.map_nil,e1] at h
  have sh:=nz (n:=g.Members.length) om
  have ep:(1*2^(Int.toNat (g.Members.length:Int)):Int)=((2^g.Members.length:Nat):Int):=by simp
  have pp:0<2^g.Members.length:=Nat.pow_pos om
  refine⟨⟨by omega,by omega⟩,_,_,_,rH hp (ou hs2 om om) ⟨rfl,rfl,rfl⟩,sh,?_⟩
  have s2:=sh.2
  rw[ep] at s2 ⊢
  have e2:(((2^g.Members.length:Nat):Int)-1)=((2^g.Members.length-1:Nat):Int):=om
  refine⟨by unfold rng at s2 ⊢;omega,?_⟩
  rw[e2]
  exact h
 have h1:g.Kind=1:=hg.kind.resolve_left h0
 obtain⟨ge,gl,g4⟩:=pT hg h1 hq
 refine qq hp (by have:=hs2.1;omega) hs2.2 ?_
 have g2:=hg.two
 have pw:2^g.Members.length<=2^4:=Nat.pow_le_pow_right om g4
 have pp:0<2^g.Members.length:=Nat.pow_pos om
 have sh:=nz (n:=g.Members.length) om
 unfold bb pI at h
 rw[if_neg h0,if_neg h0] at h
 have FL:∀ {α:Type} (F:Nat->α) i,(((List.range i).filter (λs=>decide (1<fp s g.Members.length))).map F).length<=i:=λF i=>by
  rw[List.length_map]
  have:=List.length_filter_le (λs=>decide (1<fp s g.Members.length)) (List.range i)
  rwa[List.length_range] at this
 have z0:(List.range (0+1)).filter (λs=>decide (1<fp s g.Members.length))=[]:=by
  rw[eC,rk];rfl
 refine ik (n:=2^g.Members.length-1) (λi=>(((i+1:Nat):Int),((List.range (i+1)).filter (λs=>decide (1<fp s g.Members.length))).map (λs:Nat=>(s:Int)),((List.range (i+1)).filter (λs=>decide (1<fp s g.Members.length))).map (kf g q))) (λy=>y.1) 1 (λi=>by simp) (by rw[z0];rfl) (λi next hi hn=>?_) (λnext=>?_)
 ·refine⟨sh,?_⟩
  rw[show(1*2^(Int.toNat (g.Members.length:Int)):Int)=((2^g.Members.length:Nat):Int) by simp]
  refine condT (λ_=>?_) (λhc=>absurd (show((i+1:Nat):Int)<((2^g.Members.length:Nat):Int) by omega) hc)
  refine ik (n:=g.Members.length) (λj=>((fp (i+1) j:Int),(j:Int))) (λy=>y.2) 0 (λj=>by simp) rfl (λj next2 hj hn2=>?_) (λnext2=>?_)
  ·have cl:=nh (s:=i+1) (n:=j)
   refine condT (λ_=>⟨⟨by omega,by omega⟩,?_⟩) (λhc=>absurd (show(j:Int)<(g.Members.length:Int) by omega) hc)
   rw[yC om]
   rw[v6] at hn2
   have e3:((fp (i+1) j:Int)+if inS (i+1) j then 1 else 0)=((fp (i+1) j+if inS (i+1) j then 1 else 0:Nat):Int):=by split<;>omega
   refine⟨by unfold rng;split<;>omega,eY ⟨by unfold rng;omega,?_⟩⟩
   rw[e3]
   exact hn2
  ·refine condT (λhc=>absurd (show(g.Members.length:Int)<(g.Members.length:Int) from hc) om) (λ_=>?_)
   have c4:=nh (s:=i+1) (n:=g.Members.length)
   have fl:=FL (λs:Nat=>(s:Int)) (i+1)
   have fl2:=FL (kf g q) (i+1)
   have hn3:=hn
   rw[eC] at hn3
   refine condT (λhc=>?_) (λhc=>?_)
   ·rw[if_pos (by simpa using (show 1<fp (i+1) g.Members.length by omega)),List.map_append,List.map_append] at hn3
    have e:kf g q (i+1)=at' (d8 q g.Factors).1 ((fp (i+1) g.Members.length:Int)-1):=by
     unfold kf
     rw[if_neg h0]
    refine⟨by rw[List.length_append];simp only[List.length_cons,List.length_nil];omega,by unfold rng;omega,⟨by omega,by omega⟩,by rw[List.length_append];simp only[List.length_cons,List.length_nil];omega,by unfold rng;omega,?_⟩
    rw[List.map_cons,List.map_nil,List.map_cons,List.map_nil,e] at hn3
    exact hn3
   ·rw[if_neg (by simpa using (show ¬1<fp (i+1) g.Members.length by omega)),List.append_nil] at hn3
    exact⟨by unfold rng;omega,hn3⟩
 ·refine⟨sh,?_⟩
  rw[show(1*2^(Int.toNat (g.Members.length:Int)):Int)=((2^g.Members.length:Nat):Int) by simp]
  have e4:2^g.Members.length-1+1=2^g.Members.length:=om
  rw[e4]
  refine condT (λhc=>absurd (show((2^g.Members.length:Nat):Int)<((2^g.Members.length:Nat):Int) from hc) om) (λ_=>⟨⟨by omega,by omega⟩,h⟩)
end Go.Gg
namespace Go.Gg
theorem xD {α:Type} {T:List (Int×List α)} {i j:Int} {l:List α} (hj:j≠i):cg (d4 T i l) j=cg T j:=by
 by_cases h:bx T j<T.length
 ·have:=(rU (l:=l) hj).2 h
  unfold cg
  rw[this.1,ls,if_neg this.2]
 ·rw[gI h,gI (λhh=>h ((rU hj).1.1 hh))]
theorem km {α β:Type} [Inhabited α] [Inhabited β] {g:α->β} {l:List α} {i:Nat} (h:i<l.length):at' (l.map g) (i:Int)=g (at' l (i:Int)):=by
 simp[at',List.getD_eq_getElem?_getD,h]
theorem nk {α:Type} [Inhabited α] {l:List α} {i j:Nat} (h:j<i):at' (l.take i) (j:Int)=at' l (j:Int):=by simp[at',List.getD_eq_getElem?_getD,h]
def j3 (q:List GRat) (ms:List Int) (v:GRat):List GRat:=ms.foldl (λq i=>b8 q i v) q
theorem md {v:GRat}:∀ {ms:List Int} {q:List GRat},(j3 q ms v).length=q.length
 | [],_=>rfl
 | _ :: ms,_=>(md (ms:=ms)).trans (m7 ..)
theorem sR {q:List GRat} {ms:List Int} {v:GRat} {j:Nat} (h:j<ms.length):j3 q (ms.take (j+1)) v=b8 (j3 q (ms.take j) v) (at' ms (j:Int)) v:=by
 unfold j3
 rw[d_ h,List.foldl_append]
 rfl
def ip (g:GCauseGroup) (p:List GRat):GRat:=at' p (at' g.Members 0)
def nK (g:GCauseGroup) (p:List GRat):List GRat:=(bb g).map (kf g (ip g p))
def qG (p:List GRat) (gs:List GCauseGroup):Nat->List GRat
 | 0=>p
 | k+1=>j3 (qG p gs k++nK (at' gs (k:Int)) p) (at' gs (k:Int)).Members (pI (at' gs (k:Int)) (ip (at' gs (k:Int)) p))
def gv (g:GCauseGroup) (q:Nat) (j:Nat) (i:Int):List Int:=((List.range j).filter (λn:Nat=>decide (i∈e8 g.Members (at' (bb g) (n:Int))))).map (λn:Nat=>((q+n:Nat):Int))
def stk (p:List GRat) (gs:List GCauseGroup):Nat->Int->List Int
 | 0,_=>[]
 | k+1,i=>stk p gs k i++gv (at' gs (k:Int)) (qG p gs k).length (bb (at' gs (k:Int))).length i
theorem qQ {g:GCauseGroup} {q j:Nat} {i:Int}:gv g q (j+1) i=gv g q j i++if i∈e8 g.Members (at' (bb g) (j:Int)) then [((q+j:Nat):Int)] else []:=by
 unfold gv
 rw[eC,List.map_append]
 by_cases h:i∈e8 g.Members (at' (bb g) (j:Int))
 ·rw[if_pos (decide_eq_true h),if_pos h];rfl
 ·rw[if_neg (by simpa using h),if_neg h];rfl
theorem sL {g:GCauseGroup} {q j:Nat} {i:Int}:(gv g q j i).length<=j:=by
 unfold gv
 rw[List.length_map]
 have:=List.length_filter_le (λn:Nat=>decide (i∈e8 g.Members (at' (bb g) (n:Int)))) (List.range j)
 rwa[List.length_range] at this
structure Acc (f:GFormula) (p:List GRat) (gs:List GCauseGroup):Prop where
 fg:FG f
 len:(p.length:Int)=f.Vars
 prob:dt p=true
 grp:∀k,k<gs.length->GOK (at' gs (k:Int)) p (bE gs k)
theorem Acc.of {f:GFormula} {p:List GRat} {gs:List GCauseGroup} (h:l5 f p gs=0):Acc f p gs:=by
 unfold l5 at h
 split at h
 ·rename_i a;exact absurd h a
 rename_i a
 split at h
 ·cases h
 rename_i b
 split at h
 ·cases h
 rename_i c
 exact⟨p6.1 (by simpa using a),by simpa using b,by simpa using c,λk hk=>GOK.of (cr.1 h k hk)⟩
theorem mj {g:GCauseGroup} {p:List GRat} {ms:List Int} (hg:GOK g p ms):(bb g).length<=16:=by
 unfold bb
 split
 ·simp
 ·rename_i h0
  have h1:g.Kind=1:=hg.kind.resolve_left h0
  have l2:(g.Members.length:Int)<=4:=by have:=hg.most;unfold iy at this;rwa[if_pos h1] at this
  have pw:2^g.Members.length<=2^4:=Nat.pow_le_pow_right om om
  have:=List.length_filter_le (λs=>decide (1<fp s g.Members.length)) (List.range (2^g.Members.length))
  rw[List.length_range] at this
  omega
theorem rL {p:List GRat} {gs:List GCauseGroup} {k:Nat}:(qG p gs (k+1)).length=(qG p gs k).length+(bb (at' gs (k:Int))).length:=by
 show(j3 _ _ _).length=_
 rw[md,List.length_append,nK,List.length_map]
theorem lP {f:GFormula} {p:List GRat} {gs:List GCauseGroup} (ha:Acc f p gs):∀k,k<=gs.length->p.length<=(qG p gs k).length/\(qG p gs k).length<=p.length+16*k
 | 0,_=>⟨Nat.le_refl _,Nat.le_refl _⟩
 | k+1,h=>by
  have:=lP ha k om
  have:=mj (ha.grp k om)
  rw[rL]
  omega
theorem rC {f:GFormula} {p:List GRat} {gs:List GCauseGroup} (ha:Acc f p gs) (i:Int):∀k,k<=gs.length->(stk p gs k i).length<=16*k
 | 0,_=>Nat.le_refl _
 | k+1,h=>by
  have:=rC ha i k om
  have:=mj (ha.grp k om)
  have h2:=sL (g:=at' gs (k:Int)) (q:=(qG p gs k).length) (j:=(bb (at' gs (k:Int))).length) (i:=i)
  show(stk p gs k i++gv _ _ _ _).length<=_
  rw[List.length_append]
  omega
theorem ri {f:GFormula} {p:List GRat} {gs:List GCauseGroup} (ha:Acc f p gs) (hp:Shs p) {k:Nat} (hk:k<gs.length):Sh (ip (at' gs (k:Int)) p)/\ce (ip (at' gs (k:Int)) p)=true:=by
 have hg:=ha.grp k hk
 have h1:=hg.mem 0 (by have:=hg.two;omega)
 refine⟨ou hp h1.1 h1.2.1,?_⟩
 obtain⟨n,hn⟩:=Int.eq_ofNat_of_zero_le h1.1
 have h2:=h1.2.1
 unfold ip
 rw[show((0:Nat):Int)=0 from rfl] at hn h2
 rw[hn] at h2 ⊢
 exact qV ha.prob om
def zB (x:GRat):Prop:=x.Num.length<=1099511627776/\x.Den.length<=1099511627776
theorem yb {g:GCauseGroup} {p:List GRat} {q:GRat} {ms:List Int} (hs:ShG g) (hg:GOK g p ms) (hp:Sh q) (hq:ce q=true):zB (pI g q)/\∀s∈bb g,zB (kf g q s):=by
 have g2:=hg.two
 unfold pI kf bb
 by_cases h0:g.Kind=0
 ·have l1:(g.Factors.length:Int)=1:=by have:=hg.fac;unfold my at this;rwa[if_neg om] at this
  obtain⟨⟨_,_,h1⟩,_,_,h2⟩:=sB hp (ou hs.2 (i:=0) om om)
  simp only[if_pos h0]
  exact⟨h1.len,λ_ _=>h2.len⟩
 ·have h1:g.Kind=1:=hg.kind.resolve_left h0
  obtain⟨ge,gl,g4⟩:=pT hg h1 hq
  simp only[if_neg h0]
  refine⟨(rc hp hs.2.2 0 om).len,λs hm=>?_⟩
  have hc:=of_decide_eq_true (List.mem_filter.1 hm).2
  have c4:=nh (s:=s) (n:=g.Members.length)
  have e:((fp s g.Members.length:Int)-1)=((fp s g.Members.length-1:Nat):Int):=om
  rw[e]
  exact(rc hp hs.2.2 _ om).len
theorem fv {α:Type} [Inhabited α] {l:List α} {j:Nat} (h:j<l.length):at' l (j:Int)∈l:=by
 have:at' l (j:Int)=l[j]:=by simp[at',List.getD_eq_getElem?_getD,h]
 rw[this]
 exact List.getElem_mem h
theorem yI {p:List GRat} (hp:Shs p):∀x∈p,zB x:=λx hx=>by
 obtain⟨i,hi,rfl⟩:=List.mem_iff_getElem.1 hx
 have:=(hp.2 i hi).len
 have e:at' p (i:Int)=p[i]:=by simp[at',List.getD_eq_getElem?_getD,hi]
 rwa[e] at this
theorem GOK.ne {g:GCauseGroup} {p:List GRat} {ms:List Int} (hg:GOK g p ms) {a b:Nat} (h:a<b) (hb:b<g.Members.length):at' g.Members (a:Int)≠at' g.Members (b:Int):=λe=>
 (hg.mem b hb).2.2 (List.mem_append.2 (Or.inr (i7.2 ⟨a,by rw[List.length_take];omega,by rw[nk h,e]⟩)))
theorem GOK.inj {g:GCauseGroup} {p:List GRat} {ms:List Int} (hg:GOK g p ms) {a b:Nat} (ha:a<g.Members.length) (hb:b<g.Members.length) (h:at' g.Members (a:Int)=at' g.Members (b:Int)):a=b:=by
 rcases Nat.lt_trichotomy a b with h1 | h1 | h1
 ·exact absurd h (hg.ne h1 hb)
 ·exact h1
 ·exact absurd h.symm (hg.ne h1 ha)
theorem uB {g:GCauseGroup} {p:List GRat} {ms:List Int} (hg:GOK g p ms) {s a:Nat} (ha:a<g.Members.length):at' g.Members (a:Int)∈e8 g.Members s↔inS s a=true:=by
 unfold e8
 rw[List.mem_map]
 constructor
 ·rintro⟨b,hb,e⟩
  have:=List.mem_filter.1 hb
  rw[hg.inj (List.mem_range.1 this.1) ha e] at this
  exact this.2
 ·intro h
  exact⟨a,List.mem_filter.2 ⟨List.mem_range.2 ha,h⟩,rfl⟩
theorem wD {ms:List Int} {s:Nat} {i:Int} (h:i∈e8 ms s):i∈ms:=by
 obtain⟨b,hb,rfl⟩:=List.mem_map.1 h
 exact fv (List.mem_range.1 (List.mem_filter.1 hb).1)
theorem xO {g:GCauseGroup} {p:List GRat} {ms:List Int} (hg:GOK g p ms) {s t:Nat} (ht:t<(e8 g.Members s).length):at' (e8 g.Members s) (t:Int)∉(e8 g.Members s).take t:=by
 have hp:(e8 g.Members s).Pairwise (·≠·):=by
  unfold e8
  rw[List.pairwise_map]
  have h1:((List.range g.Members.length).filter (λi=>inS s i)).Pairwise (· < ·):=List.Pairwise.filter _ List.pairwise_lt_range
  refine List.Pairwise.imp_of_mem (λ{a b} ma mb hab=>?_) h1
  exact hg.ne hab (List.mem_range.1 (List.mem_filter.1 mb).1)
 intro hm
 obtain⟨j,hj,e⟩:=i7.1 hm
 rw[List.length_take] at hj
 rw[nk om] at e
 have h2:=List.pairwise_iff_getElem.1 hp j t om ht om
 refine h2 ?_
 have e1:∀k (h:k<(e8 g.Members s).length),at' (e8 g.Members s) (k:Int)=(e8 g.Members s)[k]:=λk h=>by simp[at',List.getD_eq_getElem?_getD,h]
 rw[<-e1 j,<-e1 t,e]
end Go.Gg
namespace Go.Gg
def mu (n i:Nat):List Int:=(List.range n).map λj=>if j<i then (j:Int) else 0
theorem tI {n i:Nat}:(mu n i).length=n:=by simp[mu]
theorem vX {v:Int}:eN v (0:Int)=mu v.toNat 0:=by
 refine List.ext_getElem (by simp[eN,mu]) (λi h1 h2=>?_)
 simp[eN,mu]
theorem xj {n i:Nat}:b8 (mu n i) (i:Int) (i:Int)=mu n (i+1):=by
 refine List.ext_getElem (by simp[b8,mu]) (λj h1 h2=>?_)
 simp only[b8,mu,Int.toNat_natCast,List.getElem_set,List.getElem_map,List.getElem_range]
 split
 ·rw[if_pos om];omega
 ·by_cases h:j<i
  ·rw[if_pos h,if_pos om]
  ·rw[if_neg h,if_neg om]
def toG (v q:Nat) (ms:List Int):Nat->List Int
 | 0=>mu v v
 | t+1=>b8 (toG v q ms t) (at' ms (t:Int)) ((q+t:Nat):Int)
theorem fN {v q:Nat} {ms:List Int}:∀ {t:Nat},(toG v q ms t).length=v
 | 0=>tI
 | _+1=>(m7 ..).trans fN
def toF (v q:Nat) (ms:List Int) (m:Nat):List Int:=toG v q ms ms.length++(List.range m).map (λj:Nat=>((q+ms.length+j:Nat):Int))
theorem xL {v q m:Nat} {ms:List Int}:(toF v q ms m).length=v+m:=by simp[toF,fN]
theorem tZ {v q m j:Nat} {ms:List Int} (h:j<m):at' (toF v q ms m) ((v+j:Nat):Int)=((q+ms.length+j:Nat):Int):=by
 unfold toF at'
 rw[Int.toNat_natCast,List.getD_eq_getElem?_getD,List.getElem?_append_right (by rw[fN];omega),fN,show v+j-v=j by omega]
 simp[h]
def fx (p:List GRat) (gs:List GCauseGroup) (i:Int):GNode:=⟨3,0,i :: stk p gs gs.length i⟩
def kR (l:List Int) (nd:GNode):GNode:=⟨nd.Kind,nd.K,nd.Args.map (λa=>at' l a)⟩
def gf (f:GFormula) (p:List GRat) (gs:List GCauseGroup):List Int:=toF p.length (qG p gs gs.length).length (bE gs gs.length) f.Nodes.length
def fm (f:GFormula) (p:List GRat) (gs:List GCauseGroup):GFormula:=
 ⟨((qG p gs gs.length).length:Int),(bE gs gs.length).map (fx p gs)++f.Nodes.map (kR (gf f p gs)),at' (gf f p gs) f.Top⟩
def gg (f:GFormula) (p:List GRat) (gs:List GCauseGroup):Prop:=24<(qG p gs gs.length).length\/128<(bE gs gs.length).length+f.Nodes.length
instance expBig_dec {f:GFormula} {p:List GRat} {gs:List GCauseGroup}:Decidable (gg f p gs):=by unfold gg;infer_instance
def qF (f:GFormula) (p:List GRat) (gs:List GCauseGroup):GFormula×List GRat×Int:=
 if l5 f p gs≠0 then (⟨0,[],0⟩,[],l5 f p gs) else if gg f p gs then (⟨0,[],0⟩,[],4) else (fm f p gs,qG p gs gs.length,0)
theorem mem_range {gs:List GCauseGroup} {f:GFormula} {p:List GRat} (ha:Acc f p gs):∀k,k<=gs.length->∀i∈bE gs k,0<=i/\i<p.length
 | 0,_=>λi hi=>by simp[bE] at hi
 | k+1,h=>λi hi=>by
  rw[fy om] at hi
  rcases List.mem_append.1 hi with h1 | h1
  ·exact mem_range ha k om i h1
  ·obtain⟨a,ha2,rfl⟩:=i7.1 h1
   have:=(ha.grp k om).mem a ha2
   exact⟨this.1,this.2.1⟩
end Go.Gg
namespace Go.Gg
theorem c5 {n:Nat}:¬((n:Int)<(n:Int)):=om
theorem oP {f:GFormula} {p:List GRat} {gs:List GCauseGroup} {Q:GFormula->List GRat->Option Int->Prop} (ht:rng f.Top) (hp:Shs p) (hs:uu gs)
  (h:Q (qF f p gs).1 (qF f p gs).2.1 (m_ (qF f p gs).2.2)):iv f p gs Q:=by
 unfold qF at h
 refine p4 ht hp hs (pX (λe=>?_) (λe=>?_))
 ·rw[if_pos e] at h;exact h
 have ha:=Acc.of e
 rw[if_neg (λhh=>hh e)] at h
 have v0:=ha.fg.v0
 have v24:=ha.fg.v24
 have n128:=ha.fg.n128
 have pl:=ha.len
 have g30:=hs.1
 have p60:=hp.1
 refine ik (n:=p.length) (λi=>((i:Int),p.take i)) (λy=>y.1) 0 (λi=>by simp) (by simp) (λi next hi hn=>?_) (λnext=>?_)
 ·have lr:=yI hp _ (fv hi)
  refine condT (λ_=>⟨⟨by omega,by omega⟩,i_ lr.1 lr.2 ⟨?_,by unfold rng;omega,?_⟩⟩) (λhc=>absurd (show(i:Int)<(p.length:Int) by omega) hc)
  ·rw[List.length_append,List.length_take];simp only[List.length_cons,List.length_nil];omega
  ·rw[d_ hi] at hn;exact hn
 refine condT (λhc=>absurd hc c5) (λ_=>?_)
 rw[List.take_length]
 refine eT (n:=gs.length) (λk y=>∃T,y=((k:Int),qG p gs k,T,bE gs k)/\∀i,cg T i=stk p gs k i) (λy=>y.1) 0 (λk y hy=>by obtain⟨T,rfl,_⟩:=hy;simp) ⟨[],rfl,λi=>gI (λhh=>absurd hh (Nat.not_lt_zero _))⟩ ?_ ?_
 ·rintro k _ next hk ⟨T,rfl,hT⟩ hn
  have hg:=ha.grp k hk
  have hsg:=hs.2 k hk
  have fo:=ri ha hp hk
  have ol:=yb hsg hg fo.1 fo.2
  have ql:=lP ha k om
  have m16:=mj hg
  have m0:=hg.mem 0 (by have:=hg.two;omega)
  have ml:=jR hs k om
  have sl:=λi=>rC ha i k om
  have hQ:qG p gs (k+1)=j3 (qG p gs k++nK (at' gs (k:Int)) p) (at' gs (k:Int)).Members (pI (at' gs (k:Int)) (ip (at' gs (k:Int)) p)):=rfl
  have hS:∀i,stk p gs (k+1) i=stk p gs k i++gv (at' gs (k:Int)) (qG p gs k).length (bb (at' gs (k:Int))).length i:=λi=>rfl
  have hM:=fy hk
  refine condT (λ_=>⟨⟨by omega,by omega⟩,⟨by omega,by have:=hg.two;omega⟩,⟨m0.1,m0.2.1⟩,_,_,_,oO hsg hg fo.1 fo.2 ⟨rfl,rfl,rfl⟩,?_⟩) (λhc=>absurd (show(k:Int)<(gs.length:Int) by omega) hc)
  refine bO (λhh=>by cases hh) (λ_=>?_)
  have fe:at' p (at' (at' gs (k:Int)).Members 0)=ip (at' gs (k:Int)) p:=rfl
  rw[fe]
  generalize at' gs (k:Int)=g at *
  have hLl:∀L,(bb g).map (λs=>(⟨kf g (ip g p) s,e8 g.Members s⟩:Gcause))=L->L.length=(bb g).length/\∀j:Nat,j<(bb g).length->at' L (j:Int)=⟨kf g (ip g p) (at' (bb g) (j:Int)),e8 g.Members (at' (bb g) (j:Int))⟩:=by
   rintro _ rfl
   exact⟨List.length_map ..,λj hj=>km hj⟩
  generalize hL:(bb g).map (λs=>(⟨kf g (ip g p) s,e8 g.Members s⟩:Gcause))=L
  obtain⟨l1,l2⟩:=hLl L hL
  clear hLl hL
  have nl:(nK g p).length=(bb g).length:=List.length_map ..
  refine eT (n:=(bb g).length) (λj y=>∃T2,y=((j:Int),qG p gs k++(nK g p).take j,T2)/\∀i,cg T2 i=stk p gs k i++gv g (qG p gs k).length j i) (λy=>y.1) 0 (λj y hy=>by obtain⟨T2,rfl,_⟩:=hy;simp) ⟨T,by simp,λi=>by rw[hT];simp[gv]⟩ ?_ ?_
  ·rintro j _ next3 hj ⟨T2,rfl,hT2⟩ hn3
   refine condT (λhc=>⟨⟨by omega,hc⟩,?_⟩) (λhc=>absurd (show(j:Int)<(L.length:Int) by omega) hc)
   rw[l2 j hj]
   have hq2:(qG p gs k++(nK g p).take j).length=(qG p gs k).length+j:=by rw[List.length_append,List.length_take,nl];omega
   have hms:at' (bb g) (j:Int)∈bb g:=fv hj
   have hcp:=ol.2 _ hms
   have hsb:∀ {t:Nat},t<(e8 g.Members (at' (bb g) (j:Int))).length->at' (e8 g.Members (at' (bb g) (j:Int))) (t:Int)∉(e8 g.Members (at' (bb g) (j:Int))).take t:=λhtt=>xO hg htt
   have hsl:(e8 g.Members (at' (bb g) (j:Int))).length<=60:=by rw[wE];exact Nat.le_trans nh hsg.1
   have hss:∀i,gv g (qG p gs k).length (j+1) i=gv g (qG p gs k).length j i++if i∈e8 g.Members (at' (bb g) (j:Int)) then [(((qG p gs k).length+j:Nat):Int)] else []:=λi=>qQ
   have hnp:(nK g p).take (j+1)=(nK g p).take j++[kf g (ip g p) (at' (bb g) (j:Int))]:=by
    rw[d_ om]
    unfold nK
    rw[km hj]
   have stl:=λi=>sL (g:=g) (q:=(qG p gs k).length) (j:=j) (i:=i)
   dsimp only
   generalize at' (bb g) (j:Int)=s at *
   generalize hB:e8 g.Members s=B at *
   refine eT (n:=B.length) (λt y=>∃T3,y=((t:Int),T3)/\∀i,cg T3 i=stk p gs k i++gv g (qG p gs k).length j i++(if i∈B.take t then [(((qG p gs k).length+j:Nat):Int)] else [])) (λy=>y.1) 0 (λt y hy=>by obtain⟨T3,rfl,_⟩:=hy;simp) ⟨T2,rfl,λi=>by rw[hT2];simp⟩ ?_ ?_
   ·rintro t _ next4 htt ⟨T3,rfl,hT3⟩ hn4
    have hm:cg T3 (at' B (t:Int))=stk p gs k (at' B (t:Int))++gv g (qG p gs k).length j (at' B (t:Int)):=by
     rw[hT3,if_neg (hsb htt),List.append_nil]
    have s1:=sl (at' B (t:Int))
    have s2:=stl (at' B (t:Int))
    refine condT (λhc=>⟨⟨by omega,hc⟩,?_,by unfold rng;omega,hn4 _ ⟨_,rfl,λi=>?_⟩⟩) (λhc=>absurd (show(t:Int)<(B.length:Int) by omega) hc)
    ·rw[hm,List.length_append,List.length_append];simp only[List.length_cons,List.length_nil];omega
    ·by_cases hi:i=at' B (t:Int)
     ·rw[hi,rp,hm,hq2,d_ htt,if_pos (List.mem_append.2 (Or.inr (List.mem_singleton.2 rfl)))]
     ·rw[xD hi,hT3,d_ htt]
      congr 1
      by_cases h5:i∈B.take t
      ·rw[if_pos h5,if_pos (List.mem_append.2 (Or.inl h5))]
      ·rw[if_neg h5,if_neg (λhh=>(List.mem_append.1 hh).elim h5 (λh6=>hi (List.mem_singleton.1 h6)))]
   ·rintro _ next4 ⟨T3,rfl,hT3⟩
    rw[List.take_length] at hT3
    refine condT (λhc=>absurd hc c5) (λ_=>i_ hcp.1 hcp.2 ⟨?_,by unfold rng;omega,hn3 _ ⟨T3,?_,λi=>?_⟩⟩)
    ·rw[List.length_append,hq2];simp only[List.length_cons,List.length_nil];omega
    ·rw[hnp,<-List.append_assoc];rfl
    ·rw[hT3,hss,List.append_assoc]
  ·rintro _ next3 ⟨T2,rfl,hT2⟩
   rw[show(nK g p).take (bb g).length=nK g p by rw[<-nl,List.take_length]]
   refine condT (λhc=>absurd (show((bb g).length:Int)<(L.length:Int) from hc) om) (λ_=>?_)
   have g60:=hsg.1
   have ql2:(qG p gs k++nK g p).length=(qG p gs k).length+(bb g).length:=by rw[List.length_append,nl]
   refine ik (n:=g.Members.length) (λt=>((t:Int),j3 (qG p gs k++nK g p) (g.Members.take t) (pI g (ip g p)),bE gs k++g.Members.take t)) (λy=>y.1) 0 (λt=>by simp) (by simp[j3]) (λt next5 htt hn5=>?_) (λnext5=>?_)
   ·have hm:=hg.mem t htt
    refine condT (λhc=>⟨⟨by omega,hc⟩,i_ ol.1.1 ol.1.2 ⟨⟨hm.1,?_⟩,?_,by unfold rng;omega,?_⟩⟩) (λhc=>absurd (show(t:Int)<(g.Members.length:Int) by omega) hc)
    ·rw[md,ql2];omega
    ·rw[List.length_append,List.length_append,List.length_take];simp only[List.length_cons,List.length_nil];omega
    ·rw[sR htt,d_ htt,<-List.append_assoc] at hn5
     exact hn5
   ·refine condT (λhc=>absurd hc c5) (λ_=>⟨by unfold rng;omega,hn _ ⟨T2,?_,λi=>?_⟩⟩)
    ·rw[List.take_length,hQ,hM];rfl
    ·rw[hT2,hS]
 ·rintro _ next ⟨T,rfl,hT⟩
  refine condT (λhc=>absurd hc c5) (λ_=>?_)
  have ql:=lP ha gs.length (Nat.le_refl _)
  have ml:=jR hs gs.length (Nat.le_refl _)
  have sl:=λi=>rC ha i gs.length (Nat.le_refl _)
  have mr:=mem_range ha gs.length (Nat.le_refl _)
  refine⟨λy=>y=(decide (gg f p gs),T),condT (λa=>?_) (λa=>⟨by unfold rng;omega,?_⟩),?_⟩
  ·show(true,T)=_
   rw[decide_eq_true (show gg f p gs from Or.inl om)]
  ·show(decide _,T)=_
   rw[decide_eq_decide.2 (show(128<((bE gs gs.length).length:Int)+(f.Nodes.length:Int))↔gg f p gs from⟨λb=>Or.inr om,λb=>b.elim (λb=>absurd om a) (λb=>om)⟩)]
  rintro _ rfl
  refine condT (λa=>?_) (λa=>?_)
  ·rw[if_pos a] at h;exact h
  rw[if_neg a] at h
  unfold gg at a
  refine⟨⟨v0,Int.le_refl _,by omega,by omega⟩,?_⟩
  rw[vX,show f.Vars.toNat=p.length by omega]
  refine ik (n:=p.length) (λi=>((i:Int),mu p.length i)) (λy=>y.1) 0 (λi=>by simp) rfl (λi next6 hi hn6=>?_) (λnext6=>?_)
  ·refine condT (λhc=>⟨⟨by omega,by rw[tI];exact hc⟩,by unfold rng;omega,?_⟩) (λhc=>absurd (show(i:Int)<(p.length:Int) by omega) hc)
   rw[xj];exact hn6
  refine condT (λhc=>absurd hc c5) (λ_=>?_)
  unfold fm gf at h
  generalize hMS:bE gs gs.length=MS at *
  generalize hQQ:qG p gs gs.length=QQ at *
  refine ik (n:=MS.length) (λt=>((t:Int),toG p.length QQ.length MS t,(MS.take t).map (fx p gs))) (λy=>y.1) 0 (λt=>by simp) rfl (λt next7 htt hn7=>?_) (λnext7=>?_)
  ·have hm:=mr _ (fv htt)
   have s1:=sl (at' MS (t:Int))
   have lt:((MS.take t).map (fx p gs)).length=t:=by rw[List.length_map,List.length_take];omega
   have e1:toG p.length QQ.length MS (t+1)=b8 (toG p.length QQ.length MS t) (at' MS (t:Int)) ((QQ.length:Int)+(((MS.take t).map (fx p gs)).length:Int)):=by rw[lt];rfl
   rw[d_ htt,List.map_append,e1] at hn7
   refine condT (λhc=>⟨⟨by omega,hc⟩,by rw[lt];unfold rng;omega,⟨hm.1,by rw[fN];exact hm.2⟩,condT (λc=>?_) (λc=>?_)⟩) (λhc=>absurd (show(t:Int)<(MS.length:Int) by omega) hc)
   ·rw[hT]
    refine⟨?_,?_,by unfold rng;omega,hn7⟩
    ·rw[List.length_append];simp only[List.length_cons,List.length_nil];omega
    ·rw[List.length_append,lt];simp only[List.length_cons,List.length_nil];omega
   ·refine⟨by simp,?_,by unfold rng;omega,?_⟩
    ·rw[List.length_append,lt];simp only[List.length_cons,List.length_nil];omega
    ·have e2:=hT (at' MS (t:Int))
     rw[gI c] at e2
     have e3:fx p gs (at' MS (t:Int))=⟨3,0,[at' MS (t:Int)]++[]⟩:=by unfold fx;rw[<-e2];rfl
     rw[List.map_cons,List.map_nil,e3] at hn7
     exact hn7
  refine condT (λhc=>absurd hc c5) (λ_=>?_)
  rw[List.take_length]
  have tl:(toF p.length QQ.length MS f.Nodes.length).length=p.length+f.Nodes.length:=xL
  have t0:(toF p.length QQ.length MS f.Nodes.length).take (p.length+0)=toG p.length QQ.length MS MS.length:=by
   unfold toF
   rw[Nat.add_zero,List.take_append_of_le_length (Nat.le_of_eq fN.symm),List.take_of_length_le (Nat.le_of_eq fN)]
  have ta:∀j,j<f.Nodes.length->at' (toF p.length QQ.length MS f.Nodes.length) ((p.length+j:Nat):Int)=((QQ.length+MS.length+j:Nat):Int):=λj hj=>tZ hj
  generalize toF p.length QQ.length MS f.Nodes.length=F at *
  refine ik (n:=f.Nodes.length) (λj=>((j:Int),F.take (p.length+j),MS.map (fx p gs)++(f.Nodes.take j).map (kR F))) (λy=>y.1) 0 (λj=>by simp) (by rw[t0];simp) (λj next8 hj hn8=>?_) (λnext8=>?_)
  ·have ng:=mU (ha.fg.node j hj)
   have hl:(F.take (p.length+j)).length=p.length+j:=by rw[List.length_take];omega
   have nl:(MS.map (fx p gs)++(f.Nodes.take j).map (kR F)).length=MS.length+j:=by rw[List.length_append,List.length_map,List.length_map,List.length_take];omega
   have hin:∀i:Nat,i<(at' f.Nodes (j:Int)).Args.length->at' (F.take (p.length+j)) (at' (at' f.Nodes (j:Int)).Args (i:Int))=at' F (at' (at' f.Nodes (j:Int)).Args (i:Int)):=λi hi=>by
    have:=ng.arg i hi
    obtain⟨n,hn⟩:=Int.eq_ofNat_of_zero_le this.1
    rw[hn]
    exact nk om
   have a16:=ng.len
   refine condT (λhc=>⟨⟨by omega,hc⟩,?_⟩) (λhc=>absurd (show(j:Int)<(f.Nodes.length:Int) by omega) hc)
   refine ik (n:=(at' f.Nodes (j:Int)).Args.length) (λi=>((i:Int),((at' f.Nodes (j:Int)).Args.take i).map (λa=>at' F a))) (λy=>y.1) 0 (λi=>by simp) (by simp) (λi next9 hi hn9=>?_) (λnext9=>?_)
   ·have ar:=ng.arg i hi
    rw[d_ hi,List.map_append] at hn9
    refine condT (λhc=>⟨⟨by omega,hc⟩,⟨ar.1,by rw[hl];omega⟩,?_,by unfold rng;omega,?_⟩) (λhc=>absurd (show(i:Int)<((at' f.Nodes (j:Int)).Args.length:Int) by omega) hc)
    ·rw[List.length_append,List.length_map,List.length_take];simp only[List.length_cons,List.length_nil];omega
    ·rw[hin i hi];exact hn9
   refine condT (λhc=>absurd hc c5) (λ_=>?_)
   rw[List.take_length]
   have e5:F.take (p.length+(j+1))=F.take (p.length+j)++[((QQ.length:Int)+((MS.length+j:Nat):Int))]:=by
    rw[<-Nat.add_assoc,d_ om,ta j hj]
    congr 2
    omega
   rw[e5,d_ hj,List.map_append,<-List.append_assoc,List.map_cons,List.map_nil] at hn8
   rw[nl]
   refine⟨by unfold rng;omega,?_,?_,by unfold rng;omega,hn8⟩
   ·rw[List.length_append,hl];simp only[List.length_cons,List.length_nil];omega
   ·rw[List.length_append,nl];simp only[List.length_cons,List.length_nil];omega
  refine condT (λhc=>absurd hc c5) (λ_=>?_)
  rw[List.take_length,List.take_of_length_le om]
  refine⟨⟨ha.fg.top0,by have:=ha.fg.top;omega⟩,h⟩
end Go.Gg
namespace Go.Gg
theorem sK {g:GCauseGroup} {q j:Nat} {i:Int} (h:i∉g.Members):gv g q j i=[]:=by
 unfold gv
 rw[List.filter_eq_nil_iff.2 (λn _=>by simpa using λhh=>h (wD hh))]
 rfl
theorem rB {p:List GRat} {gs:List GCauseGroup} {i:Int}:∀k,k<=gs.length->i∉bE gs k->stk p gs k i=[]
 | 0,_,_=>rfl
 | k+1,h,hi=>by
  rw[fy om] at hi
  show stk p gs k i++gv _ _ _ _=[]
  rw[rB k om (λhh=>hi (List.mem_append.2 (Or.inl hh))),sK (λhh=>hi (List.mem_append.2 (Or.inr hh)))]
  rfl
theorem vQ {gs:List GCauseGroup} {i:Int} {k j:Nat} (h:k<j) (hj:j<=gs.length) (hi:i∈(at' gs (k:Int)).Members):i∈bE gs j:=by
 unfold bE
 rw[List.mem_flatMap]
 refine⟨_,?_,hi⟩
 rw[<-nk (l:=gs) h]
 exact fv (by rw[List.length_take];omega)
theorem sJ {f:GFormula} {p:List GRat} {gs:List GCauseGroup} (ha:Acc f p gs) {k a:Nat} (hk:k<gs.length) (hm:a<(at' gs (k:Int)).Members.length):∀d,k+1+d<=gs.length->
  stk p gs (k+1+d) (at' (at' gs (k:Int)).Members (a:Int))=gv (at' gs (k:Int)) (qG p gs k).length (bb (at' gs (k:Int))).length (at' (at' gs (k:Int)).Members (a:Int))
 | 0,_=>by
  show stk p gs k _++gv _ _ _ _=_
  rw[rB k om (λhh=>((ha.grp k hk).mem a hm).2.2 (List.mem_append.2 (Or.inl hh)))]
  rfl
 | d+1,h=>by
  have hz:gv (at' gs ((k+1+d:Nat):Int)) (qG p gs (k+1+d)).length (bb (at' gs ((k+1+d:Nat):Int))).length (at' (at' gs (k:Int)).Members (a:Int))=[]:=by
   refine sK (λhh=>?_)
   obtain⟨b,hb,e⟩:=i7.1 hh
   have:=((ha.grp (k+1+d) om).mem b hb).2.2
   rw[<-e] at this
   exact this (List.mem_append.2 (Or.inl (vQ om om (fv hm))))
  show stk p gs (k+1+d) (at' (at' gs (k:Int)).Members (a:Int))++gv (at' gs ((k+1+d:Nat):Int)) (qG p gs (k+1+d)).length (bb (at' gs ((k+1+d:Nat):Int))).length (at' (at' gs (k:Int)).Members (a:Int))=_
  rw[hz,List.append_nil]
  exact sJ ha hk hm d om
theorem xR {f:GFormula} {p:List GRat} {gs:List GCauseGroup} (ha:Acc f p gs) {k a:Nat} (hk:k<gs.length) (hm:a<(at' gs (k:Int)).Members.length) :
  stk p gs gs.length (at' (at' gs (k:Int)).Members (a:Int))=((List.range (bb (at' gs (k:Int))).length).filter (λn:Nat=>inS (at' (bb (at' gs (k:Int))) (n:Int)) a)).map (λn:Nat=>(((qG p gs k).length+n:Nat):Int)):=by
 have e:gs.length=k+1+(gs.length-(k+1)):=om
 have:=sJ ha hk hm (gs.length-(k+1)) om
 rw[<-e] at this
 rw[this]
 unfold gv
 congr 2
 funext n
 rw[Bool.eq_iff_iff,decide_eq_true_iff]
 exact uB (ha.grp k hk) hm
theorem rm {α:Type} [Inhabited α] {F:Nat->α} {n i:Nat} (h:i<n):at' ((List.range n).map F) (i:Int)=F i:=by
 rw[km (by simpa using h)]
 congr 1
 simp[at',List.getD_eq_getElem?_getD,h]
end Go.Gg
namespace Go.Gg
theorem ub {f f':GFormula} {i i':Nat} (hk:(at' f'.Nodes (i':Int)).Kind=(at' f.Nodes (i:Int)).Kind) (hK:(at' f'.Nodes (i':Int)).K=(at' f.Nodes (i:Int)).K) (hl:(at' f'.Nodes (i':Int)).Args.length=(at' f.Nodes (i:Int)).Args.length)
  (hr:∀j:Nat,j<(at' f.Nodes (i:Int)).Args.length->0<=at' (at' f'.Nodes (i':Int)).Args (j:Int)/\at' (at' f'.Nodes (i':Int)).Args (j:Int)<f'.Vars+i') (h:iw f i=0):iw f' i'=0:=by
 unfold iw at h ⊢
 rw[hk,hK,hl]
 have n1:¬∃j<(at' f.Nodes (i:Int)).Args.length,at' (at' f'.Nodes (i':Int)).Args (j:Int)<0\/f'.Vars+i'<=at' (at' f'.Nodes (i':Int)).Args (j:Int):=by
  rintro⟨j,hj,hh⟩
  have:=hr j hj
  omega
 split at h
 ·cases h
 rename_i a
 split at h
 ·cases h
 rename_i b
 split at h
 ·cases h
 rw[if_neg a,if_neg b,if_neg n1]
 exact h
theorem w5 {f:GFormula} {i:Nat} {as:List Int} (e:at' f.Nodes (i:Int)=⟨3,0,as⟩) (h1:1<=as.length/\as.length<=16) (hr:∀j:Nat,j<as.length->0<=at' as (j:Int)/\at' as (j:Int)<f.Vars+i):iw f i=0:=by
 have n1:¬∃j<as.length,at' as (j:Int)<0\/f.Vars+i<=at' as (j:Int):=by
  rintro⟨j,hj,hh⟩
  have:=hr j hj
  omega
 have a1:jY 3 as.length=true:=by
  unfold jY
  rw[if_neg (by decide),if_neg (by decide)]
  exact decide_eq_true h1
 unfold iw
 rw[e]
 dsimp only
 rw[if_neg (by decide),if_neg (by rw[a1];simp),if_neg n1,if_neg (by decide),if_neg (by decide),if_neg (by decide)]
theorem ym {g:GCauseGroup} {p:List GRat} {ms:List Int} (hg:GOK g p ms):(bb g).length<=15:=by
 unfold bb
 split
 ·simp
 ·rename_i h0
  have h1:g.Kind=1:=hg.kind.resolve_left h0
  have l2:(g.Members.length:Int)<=4:=by have:=hg.most;unfold iy at this;rwa[if_pos h1] at this
  have pw:2^g.Members.length<=2^4:=Nat.pow_le_pow_right om om
  have pp:0<2^g.Members.length:=Nat.pow_pos om
  obtain⟨m,hm⟩:∃m,2^g.Members.length=m+1:=⟨2^g.Members.length-1,by omega⟩
  rw[hm,List.range_succ_eq_map,List.filter_cons_of_neg (by simp[rk])]
  have:=List.length_filter_le (λs=>decide (1<fp s g.Members.length)) ((List.range m).map Nat.succ)
  rw[List.length_map,List.length_range] at this
  omega
theorem rK {p:List GRat} {gs:List GCauseGroup} {k:Nat}:∀d,(qG p gs k).length<=(qG p gs (k+d)).length
 | 0=>Nat.le_refl _
 | d+1=>Nat.le_trans (rK d) (by show _<=(qG p gs (k+d+1)).length;rw[rL];omega)
theorem q_ {gs:List GCauseGroup} {i:Int}:∀k,k<=gs.length->i∈bE gs k->∃j a,j<k/\a<(at' gs (j:Int)).Members.length/\i=at' (at' gs (j:Int)).Members (a:Int)
 | 0,_,h=>by simp[bE] at h
 | k+1,hk,h=>by
  rw[fy om] at h
  rcases List.mem_append.1 h with h1 | h1
  ·obtain⟨j,a,q1,q2,q3⟩:=q_ k om h1
   exact⟨j,a,by omega,q2,q3⟩
  ·obtain⟨a,q1,q2⟩:=i7.1 h1
   exact⟨k,a,by omega,q1,q2⟩
theorem wF {f:GFormula} {p:List GRat} {gs:List GCauseGroup} (ha:Acc f p gs) {i:Int} (hi:i∈bE gs gs.length):(stk p gs gs.length i).length<=15/\∀e∈stk p gs gs.length i,(p.length:Int)<=e/\e<(qG p gs gs.length).length:=by
 obtain⟨k,a,hk,hm,rfl⟩:=q_ gs.length (Nat.le_refl _) hi
 have hg:=ha.grp k hk
 have m15:=ym hg
 have ql:=lP ha k om
 have q1:=rK (p:=p) (gs:=gs) (k:=k+1) (gs.length-(k+1))
 rw[show k+1+(gs.length-(k+1))=gs.length by omega,rL] at q1
 rw[xR ha hk hm]
 refine⟨?_,λe he=>?_⟩
 ·rw[List.length_map]
  have:=List.length_filter_le (λn:Nat=>inS (at' (bb (at' gs (k:Int))) (n:Int)) a) (List.range (bb (at' gs (k:Int))).length)
  rw[List.length_range] at this
  omega
 ·obtain⟨n,hn,rfl⟩:=List.mem_map.1 he
  have:=List.mem_range.1 (List.mem_filter.1 hn).1
  omega
theorem ve {l:List Int} {i x:Int} {a:Nat} (h:a<l.length):at' (b8 l i x) (a:Int)=if i.toNat=a then x else at' l (a:Int):=by
 unfold at' b8
 generalize i.toNat=n
 rw[Int.toNat_natCast,List.getD_eq_getElem?_getD,List.getD_eq_getElem?_getD,List.getElem?_set]
 by_cases hh:n=a
 ·rw[if_pos hh,if_pos hh,if_pos om];rfl
 ·rw[if_neg hh,if_neg hh]
theorem qM {v q:Nat} {ms:List Int} {a:Nat} (hv:v<=q) (h:a<v):∀t,0<=at' (toG v q ms t) (a:Int)/\at' (toG v q ms t) (a:Int)<q+t
 | 0=>by
  have e:at' (toG v q ms 0) (a:Int)=(a:Int):=by
   show at' (mu v v) (a:Int)=_
   unfold mu
   rw[rm h,if_pos h]
  rw[e];omega
 | t+1=>by
  have ih:=qM (ms:=ms) hv h t
  have l1:a<(toG v q ms t).length:=by rw[fN];exact h
  show 0<=at' (b8 (toG v q ms t) _ _) (a:Int)/\at' (b8 (toG v q ms t) _ _) (a:Int)<_
  have e:=ve (i:=at' ms (t:Int)) (x:=((q+t:Nat):Int)) l1
  rw[e]
  split<;>omega
theorem ny {v q m:Nat} {ms:List Int} {a:Int} {j:Nat} (hv:v<=q) (hj:j<=m) (h0:0<=a) (h:a<v+j):0<=at' (toF v q ms m) a/\at' (toF v q ms m) a<q+ms.length+j:=by
 obtain⟨n,rfl⟩:=Int.eq_ofNat_of_zero_le h0
 rcases Nat.lt_or_ge n v with h1 | h1
 ·have e:at' (toF v q ms m) (n:Int)=at' (toG v q ms ms.length) (n:Int):=by
   unfold toF at'
   rw[Int.toNat_natCast,List.getD_eq_getElem?_getD,List.getElem?_append_left (by rw[fN];exact h1),List.getD_eq_getElem?_getD]
  have:=qM (ms:=ms) hv h1 ms.length
  rw[e]
  omega
 ·have:=tZ (v:=v) (q:=q) (m:=m) (j:=n-v) (ms:=ms) om
  rw[show v+(n-v)=n by omega] at this
  rw[this]
  omega
theorem xn {f:GFormula} {p:List GRat} {gs:List GCauseGroup} {i:Nat} (h:i<(bE gs gs.length).length):at' (fm f p gs).Nodes (i:Int)=fx p gs (at' (bE gs gs.length) (i:Int)):=by
 show at' (_++_:List GNode) (i:Int)=_
 rw[ot om (by rw[List.length_map];omega),km h]
theorem xm {f:GFormula} {p:List GRat} {gs:List GCauseGroup} {j:Nat} (h:j<f.Nodes.length):at' (fm f p gs).Nodes (((bE gs gs.length).length+j:Nat):Int)=kR (gf f p gs) (at' f.Nodes (j:Int)):=by
 show at' ((bE gs gs.length).map (fx p gs)++f.Nodes.map (kR (gf f p gs))) _=_
 unfold at'
 rw[Int.toNat_natCast,List.getD_eq_getElem?_getD,List.getElem?_append_right (by rw[List.length_map];omega),List.length_map,Nat.add_sub_cancel_left]
 simp[List.getD_eq_getElem?_getD,h]
theorem sd {f:GFormula} {p:List GRat} {gs:List GCauseGroup} (ha:Acc f p gs) (hb:¬gg f p gs):FG (fm f p gs):=by
 unfold gg at hb
 have ql:=lP ha gs.length (Nat.le_refl _)
 have pl:=ha.len
 have nl:(fm f p gs).Nodes.length=(bE gs gs.length).length+f.Nodes.length:=by
  show(_++_:List GNode).length=_
  rw[List.length_append,List.length_map,List.length_map]
 have vq:(fm f p gs).Vars=((qG p gs gs.length).length:Int):=rfl
 have tt:=ny (v:=p.length) (q:=(qG p gs gs.length).length) (m:=f.Nodes.length) (ms:=bE gs gs.length) (a:=f.Top) (j:=f.Nodes.length) ql.1 (Nat.le_refl _) ha.fg.top0 (by have:=ha.fg.top;omega)
 refine⟨by rw[vq];omega,by rw[vq];omega,by rw[nl];omega,λi hi=>?_,tt.1,?_⟩
 ·rw[nl] at hi
  rcases Nat.lt_or_ge i (bE gs gs.length).length with h1 | h1
  ·have hm:=fv h1
   have so:=wF ha hm
   have mr:=mem_range ha gs.length (Nat.le_refl _) _ hm
   refine w5 (xn h1) ⟨by simp,by rw[List.length_cons];omega⟩ (λj hj=>?_)
   have hin:at' (at' (bE gs gs.length) (i:Int) :: stk p gs gs.length (at' (bE gs gs.length) (i:Int))) (j:Int)∈at' (bE gs gs.length) (i:Int) :: stk p gs gs.length (at' (bE gs gs.length) (i:Int)):=fv hj
   rw[vq]
   rcases List.mem_cons.1 hin with h2 | h2
   ·rw[h2];omega
   ·have:=so.2 _ h2;omega
  ·obtain⟨j,rfl⟩:∃j,i=(bE gs gs.length).length+j:=⟨i-(bE gs gs.length).length,by omega⟩
   have hj:j<f.Nodes.length:=om
   have er:=xm (p:=p) (gs:=gs) hj
   have ng:=mU (ha.fg.node j hj)
   refine ub (f:=f) (i:=j) (by rw[er];rfl) (by rw[er];rfl) (by rw[er];exact List.length_map ..) (λt ht=>?_) (ha.fg.node j hj)
   have e2:at' (at' (fm f p gs).Nodes (((bE gs gs.length).length+j:Nat):Int)).Args (t:Int)=at' (gf f p gs) (at' (at' f.Nodes (j:Int)).Args (t:Int)):=by
    rw[er]
    exact km ht
   have ar:=ng.arg t ht
   have:=ny (v:=p.length) (q:=(qG p gs gs.length).length) (m:=f.Nodes.length) (ms:=bE gs gs.length) (j:=j) ql.1 om ar.1 om
   rw[e2,vq]
   unfold gf
   omega
 ·rw[vq,nl]
  show at' (gf f p gs) f.Top<_
  unfold gf
  omega
end Go.Gg
namespace Go.Gg
theorem sf {x:GNode} {v:List Bool}:∀n,0<cnt x v n↔∃j,j<n/\at' v (at' x.Args (j:Int))=true
 | 0=>⟨λh=>absurd h (by simp[cnt]),λ⟨_,h,_⟩=>absurd h om⟩
 | n+1=>by
  rw[cnt]
  constructor
  ·intro h
   by_cases h1:at' v (at' x.Args (n:Int))=true
   ·exact⟨n,by omega,h1⟩
   ·rw[if_neg h1] at h
    obtain⟨j,q1,q2⟩:=(sf n).1 om
    exact⟨j,by omega,q2⟩
  ·rintro⟨j,q1,q2⟩
   by_cases h1:j=n
   ·rw[<-h1,if_pos q2];omega
   ·have:=(sf (x:=x) (v:=v) n).2 ⟨j,by omega,q2⟩
    omega
theorem p5 {x x':GNode} {v v':List Bool}:∀n,(∀j:Nat,j<n->at' v' (at' x'.Args (j:Int))=at' v (at' x.Args (j:Int)))->cnt x' v' n=cnt x v n
 | 0,_=>rfl
 | n+1,h=>by rw[cnt,cnt,p5 n (λj hj=>h j om),h n om]
def stB (p:List GRat) (gs:List GCauseGroup) (s:Nat) (i:Int):Bool:=inS s i.toNat || (stk p gs gs.length i).any (λe=>inS s e.toNat)
theorem qN {v q:Nat} {ms:List Int} {a:Nat} (h:a<v) (hm:∀i∈ms,0<=i):∀t,t<=ms.length->
  (∃t',t'<t/\at' ms (t':Int)=(a:Int)/\at' (toG v q ms t) (a:Int)=((q+t':Nat):Int))\/((a:Int)∉ms.take t/\at' (toG v q ms t) (a:Int)=(a:Int))
 | 0,_=>by
  refine Or.inr ⟨by simp,?_⟩
  show at' (mu v v) (a:Int)=_
  unfold mu
  rw[rm h,if_pos h]
 | t+1,ht=>by
  have ih:=qN (q:=q) h hm t om
  have l1:a<(toG v q ms t).length:=by rw[fN];exact h
  have e:=ve (i:=at' ms (t:Int)) (x:=((q+t:Nat):Int)) l1
  have e2:at' (toG v q ms (t+1)) (a:Int)=at' (b8 (toG v q ms t) (at' ms (t:Int)) ((q+t:Nat):Int)) (a:Int):=rfl
  have m0:=hm _ (fv (show t<ms.length by omega))
  rw[e2,e]
  by_cases h1:(at' ms (t:Int)).toNat=a
  ·rw[if_pos h1]
   exact Or.inl ⟨t,by omega,by omega,rfl⟩
  ·rw[if_neg h1]
   rcases ih with⟨t',q1,q2,q3⟩ | ⟨q1,q2⟩
   ·exact Or.inl ⟨t',by omega,q2,q3⟩
   ·refine Or.inr ⟨?_,q2⟩
    rw[d_ om]
    intro hh
    rcases List.mem_append.1 hh with h2 | h2
    ·exact q1 h2
    ·have:=List.mem_singleton.1 h2;omega
section
variable {f:GFormula} {p:List GRat} {gs:List GCauseGroup} {s st:Nat}
theorem sa:(fm f p gs).Nodes.length=(bE gs gs.length).length+f.Nodes.length:=by
 show(_++_:List GNode).length=_
 rw[List.length_append,List.length_map,List.length_map]
theorem wo (ha:Acc f p gs) (hb:¬gg f p gs) {t:Nat} (ht:t<(bE gs gs.length).length) :
  at' (gk (fm f p gs) s (fm f p gs).Nodes.length) (((qG p gs gs.length).length+t:Nat):Int)=stB p gs s (at' (bE gs gs.length) (t:Int)):=by
 have fg:=sd ha hb
 have ql:=lP ha gs.length (Nat.le_refl _)
 have hm:=fv ht
 have so:=wF ha hm
 have mr:=mem_range ha gs.length (Nat.le_refl _) _ hm
 have vq:(fm f p gs).Vars=((qG p gs gs.length).length:Int):=rfl
 have e1:=nu (f:=fm f p gs) (s:=s) (i:=t) fg.v0 (by rw[sa];omega)
 have e0:(((qG p gs gs.length).length+t:Nat):Int)=(fm f p gs).Vars+(t:Int):=by rw[vq];omega
 rw[e0,e1,xn ht]
 generalize at' (bE gs gs.length) (t:Int)=i at *
 have e2:q9 (fx p gs i) (gk (fm f p gs) s t)=decide (0<cnt (fx p gs i) (gk (fm f p gs) s t) (fx p gs i).Args.length):=by
  show tD (fx p gs i) _=_
  unfold tD
  have k3:(fx p gs i).Kind=3:=rfl
  rw[k3,if_neg (show ¬(3:Int)=0 by decide),if_neg (show ¬(3:Int)=1 by decide),if_neg (show ¬(3:Int)=2 by decide),if_pos (show(3:Int)=3 from rfl)]
  exact decide_eq_decide.2 om
 rw[e2,Bool.eq_iff_iff,decide_eq_true_iff,sf]
 have vb:∀a∈i :: stk p gs gs.length i,at' (gk (fm f p gs) s t) a=inS s a.toNat:=λa hh=>by
  rcases List.mem_cons.1 hh with h2 | h2
  ·rw[h2];exact mF mr.1 (by rw[vq];omega) t
  ·have:=so.2 _ h2
   exact mF om (by rw[vq];omega) t
 unfold stB
 rw[Bool.or_eq_true,List.any_eq_true]
 constructor
 ·rintro⟨j,hj,e⟩
  have hin:at' (i :: stk p gs gs.length i) (j:Int)∈i :: stk p gs gs.length i:=fv hj
  have e3:=(vb _ hin).symm.trans e
  rcases List.mem_cons.1 hin with h2 | h2
  ·rw[h2] at e3;exact Or.inl e3
  ·exact Or.inr ⟨_,h2,e3⟩
 ·intro hh
  obtain⟨a,h1,h2⟩:∃a∈i :: stk p gs gs.length i,inS s a.toNat=true:=by
   rcases hh with h1 | ⟨a,h1,h2⟩
   ·exact⟨i,List.mem_cons_self,h1⟩
   ·exact⟨a,List.mem_cons_of_mem _ h1,h2⟩
  obtain⟨j,hj,rfl⟩:=i7.1 h1
  exact⟨j,hj,(vb _ h1).trans h2⟩
theorem oZ (ha:Acc f p gs) (hb:¬gg f p gs) (hs:∀i:Nat,i<p.length->inS st i=stB p gs s (i:Int)):∀j,j<=f.Nodes.length->∀a:Int,0<=a->a<p.length+j->
  at' (gk (fm f p gs) s (fm f p gs).Nodes.length) (at' (gf f p gs) a)=at' (gk f st f.Nodes.length) a
 | 0,_,a,h0,h=>by
  have fg:=sd ha hb
  have ql:=lP ha gs.length (Nat.le_refl _)
  have pl:=ha.len
  have vq:(fm f p gs).Vars=((qG p gs gs.length).length:Int):=rfl
  obtain⟨n,rfl⟩:=Int.eq_ofNat_of_zero_le h0
  have hn:n<p.length:=om
  have e:at' (gf f p gs) (n:Int)=at' (toG p.length (qG p gs gs.length).length (bE gs gs.length) (bE gs gs.length).length) (n:Int):=by
   unfold gf toF at'
   rw[Int.toNat_natCast,List.getD_eq_getElem?_getD,List.getElem?_append_left (by rw[fN];exact hn),List.getD_eq_getElem?_getD]
  rw[e,mF (f:=f) (s:=st) h0 om,Int.toNat_natCast,hs n hn]
  rcases qN (q:=(qG p gs gs.length).length) hn (λi hi=>(mem_range ha gs.length (Nat.le_refl _) i hi).1) (bE gs gs.length).length (Nat.le_refl _) with⟨t,q1,q2,q3⟩ | ⟨q1,q2⟩
  ·rw[q3,wo ha hb q1,q2]
  ·rw[q2,mF om (by rw[vq];omega)]
   rw[List.take_length] at q1
   unfold stB
   rw[rB gs.length (Nat.le_refl _) q1]
   simp
 | j+1,hj,a,h0,h=>by
  by_cases h1:a<p.length+j
  ·exact oZ ha hb hs j om a h0 h1
  have fg:=sd ha hb
  have ql:=lP ha gs.length (Nat.le_refl _)
  have pl:=ha.len
  have vq:(fm f p gs).Vars=((qG p gs gs.length).length:Int):=rfl
  have ea:a=((p.length+j:Nat):Int):=om
  have e:at' (gf f p gs) a=(((qG p gs gs.length).length+(bE gs gs.length).length+j:Nat):Int):=by
   rw[ea]
   exact tZ om
  have e0:(((qG p gs gs.length).length+(bE gs gs.length).length+j:Nat):Int)=(fm f p gs).Vars+(((bE gs gs.length).length+j:Nat):Int):=by rw[vq];omega
  have n1:=nu (f:=fm f p gs) (s:=s) (i:=(bE gs gs.length).length+j) fg.v0 (by rw[sa];omega)
  have n2:=nu (f:=f) (s:=st) (i:=j) ha.fg.v0 om
  rw[e,e0,n1,ea,show((p.length+j:Nat):Int)=f.Vars+(j:Int) by omega,n2,xm om]
  have ng:=mU (ha.fg.node j om)
  have al:(kR (gf f p gs) (at' f.Nodes (j:Int))).Args.length=(at' f.Nodes (j:Int)).Args.length:=List.length_map ..
  have cc:=p5 (x:=at' f.Nodes (j:Int)) (x':=kR (gf f p gs) (at' f.Nodes (j:Int))) (v:=gk f st j) (v':=gk (fm f p gs) s ((bE gs gs.length).length+j)) (at' f.Nodes (j:Int)).Args.length (λt ht=>by
   have ar:=ng.arg t ht
   have ra:0<=at' (gf f p gs) (at' (at' f.Nodes (j:Int)).Args (t:Int))/\at' (gf f p gs) (at' (at' f.Nodes (j:Int)).Args (t:Int))<(qG p gs gs.length).length+(bE gs gs.length).length+j:=ny (v:=p.length) (q:=(qG p gs gs.length).length) (m:=f.Nodes.length) (ms:=bE gs gs.length) (j:=j) ql.1 om ar.1 om
   have e3:at' (kR (gf f p gs) (at' f.Nodes (j:Int))).Args (t:Int)=at' (gf f p gs) (at' (at' f.Nodes (j:Int)).Args (t:Int)):=km ht
   have ih:=oZ ha hb hs j om (at' (at' f.Nodes (j:Int)).Args (t:Int)) ar.1 om
   rw[e3,<-kF (m:=(bE gs gs.length).length+j) ra.1 (by rw[vq];omega) (fm f p gs).Nodes.length (by rw[sa];omega),ih]
   exact kF ar.1 om _ om)
  unfold q9 tD
  rw[al,cc]
  rfl
theorem vp (ha:Acc f p gs) (hb:¬gg f p gs) (hs:∀i:Nat,i<p.length->inS st i=stB p gs s (i:Int)):FV (fm f p gs) s=FV f st:=by
 have:=ha.fg.top
 have:=ha.len
 exact oZ ha hb hs f.Nodes.length (Nat.le_refl _) f.Top ha.fg.top0 om
end
end Go.Gg
namespace Go.Gg
def StI (p:List GRat) (s:Nat) (L:Int->List Int) (o:Nat):Prop:=o<2^p.length/\∀i:Nat,i<p.length->(inS o i=true↔(inS s i=true\/∃e∈L (i:Int),inS s e.toNat=true))
theorem zo {a b i:Nat}:inS (a ||| b) i=(inS a i || inS b i):=by rw[gP,gP,gP,Nat.testBit_or]
theorem yr {n i:Nat}:inS (2^n) i=decide (n=i):=by rw[gP,Nat.testBit_two_pow]
theorem StI.st {p:List GRat} {gs:List GCauseGroup} {s o:Nat} (h:StI p s (stk p gs gs.length) o) (i:Nat) (hi:i<p.length):inS o i=stB p gs s (i:Int):=by
 rw[Bool.eq_iff_iff,h.2 i hi]
 unfold stB
 rw[Bool.or_eq_true,List.any_eq_true,Int.toNat_natCast]
theorem ph {f:GFormula} {p:List GRat} {gs:List GCauseGroup} {s:Nat} {Q:Int->Prop} (ha:Acc f p gs) (hp:Shs p) (hs:uu gs) (hq:(qG p gs gs.length).length<=24) (hsz:s<16777216)
  (h:∀o:Nat,StI p s (stk p gs gs.length) o->Q (o:Int)):eh f p gs (s:Int) Q:=by
 have pl:=ha.len
 have g30:=hs.1
 have qa:=lP ha gs.length (Nat.le_refl _)
 have pp:0<2^p.length:=Nat.pow_pos om
 have pw:2^p.length<=2^24:=Nat.pow_le_pow_right om om
 have sh:=nz (n:=p.length) om
 unfold eh
 rw[<-pl]
 refine⟨sh,?_⟩
 rw[show(1*2^(Int.toNat (p.length:Int)):Int)=((2^p.length:Nat):Int) by simp]
 refine⟨by unfold rng;omega,?_⟩
 rw[show(((2^p.length:Nat):Int)-1)=((2^p.length-1:Nat):Int) by omega,xA om om]
 refine eT (n:=gs.length) (λk y=>∃o:Nat,y=(((qG p gs k).length:Int),(o:Int),(k:Int))/\StI p s (stk p gs k) o) (λy=>y.2.2) 0 (λk y hy=>by obtain⟨o,rfl,_⟩:=hy;simp) ⟨s &&& (2^p.length-1),rfl,Nat.and_lt_two_pow _ om,λi hi=>?_⟩ ?_ ?_
 ·rw[gP,Nat.testBit_and,Nat.testBit_two_pow_sub_one,decide_eq_true hi,Bool.and_true,<-gP]
  exact⟨Or.inl,λhh=>hh.elim id (λ⟨e,he,_⟩=>by cases he)⟩
 ·rintro k _ next hk ⟨o,rfl,hI⟩ hn
  have hg:=ha.grp k hk
  have hsg:=hs.2 k hk
  have fo:=ri ha hp hk
  have m0:=hg.mem 0 (by have:=hg.two;omega)
  have qm:=rK (p:=p) (gs:=gs) (k:=k+1) (gs.length-(k+1))
  rw[show k+1+(gs.length-(k+1))=gs.length by omega] at qm
  have ql:=rL (p:=p) (gs:=gs) (k:=k)
  have hS:∀i,stk p gs (k+1) i=stk p gs k i++gv (at' gs (k:Int)) (qG p gs k).length (bb (at' gs (k:Int))).length i:=λi=>rfl
  refine condT (λ_=>⟨⟨by omega,by omega⟩,⟨by omega,by have:=hg.two;omega⟩,⟨m0.1,m0.2.1⟩,_,_,_,pg hsg hg fo.1 fo.2 ⟨rfl,rfl,rfl⟩,?_⟩) (λhc=>absurd (show(k:Int)<(gs.length:Int) by omega) hc)
  generalize at' gs (k:Int)=g at *
  have g60:=hsg.1
  refine eT (n:=(bb g).length) (λn y=>∃o:Nat,y=((((qG p gs k).length+n:Nat):Int),(o:Int),(n:Int))/\StI p s (λi=>stk p gs k i++gv g (qG p gs k).length n i) o) (λy=>y.2.2) 0 (λn y hy=>by obtain⟨o,rfl,_⟩:=hy;simp) ⟨o,rfl,hI.1,λi hi=>by rw[hI.2 i hi];simp[gv]⟩ ?_ ?_
  ·rintro n _ next2 hn2 ⟨o2,rfl,hJ⟩ hnx
   have sm:at' ((bb g).map (λs:Nat=>(s:Int))) (n:Int)=((at' (bb g) (n:Int):Nat):Int):=km hn2
   have big:at' (bb g) (n:Int)<4294967296:=by
    have hmem:at' (bb g) (n:Int)∈bb g:=fv hn2
    have g24:=hg.most
    have mo:iy g<=24:=by unfold iy;split<;>omega
    have pw2:2^g.Members.length<=2^24:=Nat.pow_le_pow_right om om
    generalize at' (bb g) (n:Int)=m at hmem
    unfold bb at hmem
    split at hmem
    ·have:=List.mem_singleton.1 hmem;omega
    ·have:=List.mem_range.1 (List.mem_filter.1 hmem).1;omega
   have hss:∀i,gv g (qG p gs k).length (n+1) i=gv g (qG p gs k).length n i++if i∈e8 g.Members (at' (bb g) (n:Int)) then [(((qG p gs k).length+n:Nat):Int)] else []:=λi=>qQ
   have hsm:=λ{b:Nat} (hb:b<g.Members.length)=>uB hg (s:=at' (bb g) (n:Int)) hb
   refine condT (λhc=>⟨⟨by omega,hc⟩,?_⟩) (λhc=>absurd (show(n:Int)<(((bb g).map (λs:Nat=>(s:Int))).length:Int) by rw[List.length_map];omega) hc)
   rw[sm]
   generalize at' (bb g) (n:Int)=m at *
   refine eT (n:=g.Members.length) (λa y=>∃o3:Nat,y=((o3:Int),(a:Int))/\o3<2^p.length/\∀i:Nat,i<p.length->(inS o3 i=true↔(inS o2 i=true\/(inS s ((qG p gs k).length+n)=true/\∃b,b<a/\at' g.Members (b:Int)=(i:Int)/\inS m b=true)))) (λy=>y.2) 0 (λa y hy=>by obtain⟨o3,rfl,_⟩:=hy;simp) ⟨o2,rfl,hJ.1,λi hi=>by simp⟩ ?_ ?_
   ·rintro a _ next3 hm ⟨o3,rfl,hlt,hK⟩ hnn
    have mm:=hg.mem a hm
    refine condT (λhc=>⟨⟨by omega,hc⟩,λy=>y=(inS s ((qG p gs k).length+n) && inS m a),⟨⟨by omega,by omega⟩,?_⟩,?_⟩) (λhc=>absurd (show(a:Int)<(g.Members.length:Int) by omega) hc)
    ·rw[sj om]
     refine bO (λb1=>⟨⟨by omega,by omega⟩,?_⟩) (λb1=>?_)
     ·rw[sj big,b1];rfl
     ·show false=_
      rw[b1];rfl
    rintro _ rfl
    obtain⟨mn,hmn⟩:=Int.eq_ofNat_of_zero_le mm.1
    have mlt:mn<p.length:=om
    refine bO (λb1=>?_) (λb1=>?_)
    ·have pm:2^mn<2^p.length:=Nat.pow_lt_pow_right om mlt
     rw[hmn]
     refine⟨nz om,?_⟩
     rw[show(1*2^(Int.toNat (mn:Int)):Int)=((2^mn:Nat):Int) by simp,yB om om]
     rw[Bool.and_eq_true] at b1
     refine eY ⟨by unfold rng;omega,hnn _ ⟨o3 ||| 2^mn,rfl,Nat.or_lt_two_pow hlt pm,λi hi=>?_⟩⟩
     rw[zo,yr,Bool.or_eq_true,hK i hi,decide_eq_true_iff]
     constructor
     ·rintro((q1 | ⟨q1,b,q2,q3,q4⟩) | q1)
      ·exact Or.inl q1
      ·exact Or.inr ⟨q1,b,by omega,q3,q4⟩
      ·exact Or.inr ⟨b1.1,a,by omega,by rw[hmn,q1],b1.2⟩
     ·rintro(q1 | ⟨q1,b,q2,q3,q4⟩)
      ·exact Or.inl (Or.inl q1)
      ·by_cases hb:b=a
       ·rw[hb,hmn] at q3;exact Or.inr om
       ·exact Or.inl (Or.inr ⟨q1,b,by omega,q3,q4⟩)
    ·refine⟨by unfold rng;omega,hnn _ ⟨o3,rfl,hlt,λi hi=>?_⟩⟩
     rw[hK i hi]
     constructor
     ·rintro(q1 | ⟨q1,b,q2,q3,q4⟩)
      ·exact Or.inl q1
      ·exact Or.inr ⟨q1,b,by omega,q3,q4⟩
     ·rintro(q1 | ⟨q1,b,q2,q3,q4⟩)
      ·exact Or.inl q1
      ·by_cases hb:b=a
       ·rw[hb] at q4;rw[q1,q4] at b1;cases b1
       ·exact Or.inr ⟨q1,b,by omega,q3,q4⟩
   ·rintro _ next3 ⟨o3,rfl,hlt,hK⟩
    refine condT (λhc=>absurd hc c5) (λ_=>⟨by unfold rng;omega,by unfold rng;omega,hnx _ ⟨o3,rfl,hlt,λi hi=>?_⟩⟩)
    rw[hK i hi,hJ.2 i hi]
    dsimp only
    rw[hss]
    constructor
    ·rintro((q1 | ⟨e,q1,q2⟩) | ⟨q1,b,q2,q3,q4⟩)
     ·exact Or.inl q1
     ·exact Or.inr ⟨e,by rw[<-List.append_assoc];exact List.mem_append.2 (Or.inl q1),q2⟩
     ·refine Or.inr ⟨(((qG p gs k).length+n:Nat):Int),List.mem_append.2 (Or.inr (List.mem_append.2 (Or.inr ?_))),by rw[Int.toNat_natCast];exact q1⟩
      rw[if_pos (by rw[<-q3];exact(hsm q2).2 q4)]
      exact List.mem_singleton.2 rfl
    ·rintro(q1 | ⟨e,q1,q2⟩)
     ·exact Or.inl (Or.inl q1)
     ·rw[<-List.append_assoc] at q1
      rcases List.mem_append.1 q1 with q3 | q3
      ·exact Or.inl (Or.inr ⟨e,q3,q2⟩)
      ·by_cases hi2:(i:Int)∈e8 g.Members m
       ·rw[if_pos hi2] at q3
        rw[List.mem_singleton.1 q3] at q2
        obtain⟨b,hb,e2⟩:=i7.1 (wD hi2)
        rw[e2] at hi2
        exact Or.inr ⟨q2,b,hb,e2.symm,(hsm hb).1 hi2⟩
       ·rw[if_neg hi2] at q3;cases q3
  ·rintro _ next2 ⟨o2,rfl,hJ⟩
   refine condT (λhc=>absurd (show((bb g).length:Int)<(((bb g).map (λs:Nat=>(s:Int))).length:Int) from hc) (by rw[List.length_map];omega)) (λ_=>⟨by unfold rng;omega,hn _ ⟨o2,by rw[ql];rfl,hJ.1,λi hi=>?_⟩⟩)
   rw[hJ.2 i hi,hS]
 ·rintro _ next ⟨o,rfl,hI⟩
  exact condT (λhc=>absurd hc c5) (λ_=>h o hI)
end Go.Gg
namespace Go.Gg
theorem vT {f:GFormula} {Q:Bool->Prop} (h:∀b,Q b):jI f Q:=by
 refine condT (λ_=>h _) (λhc=>?_)
 exact ko (λ_=>False) om (λi next hi hI hnx=>⟨⟨by omega,by omega⟩,condT (λ_=>h _) (λ_=>hnx (λhh=>hh))⟩) (λ_=>h _)
theorem qC {l:List GCauseGroup} {Q:Bool->Prop} (ll:l.length<=9223372036854775807) (wl:∀i:Nat,i<l.length->(at' l (i:Int)).Factors.length<=9223372036854775807/\WrL (at' l (i:Int)).Factors)
  (h:∀b,(b=true->uu l)->Q b):jG l Q:=by
 refine ko (λi=>¬ShG (at' l (i:Int))) ll (λi next hi hI hnx=>⟨⟨by omega,by omega⟩,condT (λ_=>h _ λhh=>by cases hh) (λc=>?_)⟩) (λhall=>?_)
 ·refine lU (wl i hi).1 (wl i hi).2 λb hb=>bO (λ_=>h _ λhh=>by cases hh) (λhb2=>hnx (λhn=>hn ⟨by omega,hb (by simpa using hb2)⟩))
 ·exact h _ λe=>⟨by have:=of_decide_eq_true e;omega,λi hi=>Classical.not_not.1 (hall i hi)⟩
end Go.Gg
