/- Probabilities, Greek letters, the beta factor, totals: the program's and the reference's functions. Conditions: the numbers fit the machine. -/
import Derived.Test.YtnjgdkfhgmebjaaGreatMa
import Derived.Test.YtnjgdkfhgmebjaaGreatWa
import Derived.Test.YtnjgdkfhgmebjaaGreatGd2
namespace Go.Gg
theorem xE {α:Type} [Inhabited α] {f:Nat->α} {n i:Nat} (h:i<n):at' ((List.range n).map f) (i:Int)=f i:=by
 simp[at',List.getD_eq_getElem?_getD,h]
def dD (l:List GRat):Bool:=decide (∀i,i<l.length->cn (at' l (i:Int))=true)
theorem ph {p:GRat}:dD [p]=cn p:=by
 unfold dD
 cases h:cn p with
 | true=>refine decide_eq_true λi hi=>?_;match i with | 0=>exact h | i+1=>exact absurd hi (by simp)
 | false=>refine decide_eq_false λhh=>?_;have:cn p=true:=hh 0 (by simp);rw[h] at this;cases this
theorem pg {p q:GRat}:dD [p,q]=(cn p && cn q):=by
 unfold dD
 cases h:cn p && cn q with
 | true=>
  rw[Bool.and_eq_true] at h
  refine decide_eq_true λi hi=>?_
  match i with
  | 0=>exact h.1
  | 1=>exact h.2
  | i+2=>exact absurd hi (by simp)
 | false=>
  refine decide_eq_false λhh=>?_
  have h1:cn p=true:=hh 0 (by simp)
  have h2:cn q=true:=hh 1 (by simp)
  rw[h1,h2] at h;cases h
theorem so {a:GRat} (h:cn a=true):a=aO (a_ a)/\0<=a_ a/\a_ a<=1:=by
 unfold cn at h
 simp only[Bool.and_eq_true,decide_eq_true_eq] at h
 exact⟨no h.1,h.2.1,h.2.2⟩
theorem gQ {q:Rat}:cn (aO q)=(decide (0<=q) && decide (q<=1)):=by rw[cn,qy,cy,Bool.true_and]
theorem qv {l:List GRat} (h:dD l=true) {i:Nat} (hi:i<l.length):cn (at' l (i:Int))=true:=of_decide_eq_true h i hi
theorem eO {l:List GRat} {Q:Bool->Prop} (hl:l.length<=1099511627776) (hf:∀i:Nat,i<l.length->Fr (at' l (i:Int))) (h:Q (dD l)):dk l Q:=by
 show bq l _
 refine i8 (λi=>cn (at' l (i:Int))=false) om (λi next hi hI hnx=>⟨⟨by omega,by omega⟩,oc (hf i hi) (bS (λhb=>?_) (λhb=>hnx (by simpa using hb)))⟩) (λhall=>?_)
 ·have:dD l=false:=decide_eq_false λhh=>by have:=hh i hi;rw[this] at hb;cases hb
  rw[this] at h
  show Q (!decide (0<=(i:Int)))
  rw[decide_eq_true om];exact h
 ·have:dD l=true:=decide_eq_true λi hi=>by simpa using hall i hi
  rw[this] at h;exact h
theorem ji {l:List GRat} {k:Nat} {Q:Bool->Prop} (hl:l.length<=1099511627776) (hf:∀i:Nat,i<l.length->Fr (at' l (i:Int))/\RB k (a_ (at' l (i:Int)))) (hk:k+65<=cap) (h:Q (dD l)):fq l Q:=by
 refine⟨λx=>∃i:Nat,x=i/\i<=l.length/\∀j:Nat,j<i->cn (at' l (j:Int))=true,λx=>l.length-x.toNat,⟨0,rfl,by omega,λj hj=>absurd hj om⟩,?_⟩
 rintro _ ⟨i,rfl,hi,hI⟩
 refine condT (λhc=>⟨⟨by omega,hc⟩,ik (hf i om).1 (hf i om).2 hk (bS (λhb=>?_) (λhb=>⟨by unfold rng;omega,⟨i+1,by omega,by omega,λj hj=>?_⟩,by dsimp only;omega⟩))⟩) (λhc=>?_)
 ·have:dD l=false:=decide_eq_false λhh=>by have:=hh i om;rw[this] at hb;cases hb
  rw[this] at h;exact h
 ·rcases Nat.lt_or_ge j i with h1 | h1
  ·exact hI j h1
  ·obtain rfl:j=i:=om
   simpa using hb
 ·have:dD l=true:=decide_eq_true λj hj=>hI j om
  rw[this] at h;exact h
def chz (n:Int):Nat->Int
 | 0=>1
 | x+1=>Int.tdiv (chz n x*(n-x)) (x+1)
theorem nD:∀n:Nat,n<4->∀x:Nat,x<4->(-1000<chz n x/\chz n x<1000)/\(-1000<chz n x*(n-x)/\chz n x*(n-x)<1000)/\(x<=n->0<chz n x):=by decide
theorem wD:∀n:Nat,n<4->∀x:Nat,x<4->(-1000<chz n (x+1)/\chz n (x+1)<1000):=by decide
theorem nY {n k:Nat} (hn:n<4) (hk:k<4) {Q:Int->Prop} (h:Q (chz n k)) :
  bd (σ:=Int×Int) (1,0) λ⟨out,x⟩ next1=>
  aj (decide (x<(k:Int)))
   (rng ((n:Int)-x)/\
   rng (out*((n:Int)-x))/\
   rng (x+1)/\
   ((x+1)≠0/\rng (Int.tdiv (out*((n:Int)-x)) (x+1)))/\
   rng (x+1)/\
   next1 ((Int.tdiv (out*((n:Int)-x)) (x+1)),(x+1)))
   (Q out):=by
 refine⟨λy=>∃x:Nat,x<=k/\y=(chz n x,(x:Int)),λy=>k-y.2.toNat,⟨0,by omega,rfl⟩,?_⟩
 rintro _ ⟨x,hx,rfl⟩
 refine condT (λhc=>?_) (λhc=>?_)
 ·have h1:=nD n hn x om
  have h2:=wD n hn x om
  exact⟨by unfold rng;omega,by unfold rng;omega,by unfold rng;omega,⟨by omega,by unfold rng;rw[show Int.tdiv (chz n x*((n:Int)-x)) (x+1)=chz n (x+1) from rfl];omega⟩,by unfold rng;omega,⟨x+1,by omega,rfl⟩,by dsimp only;omega⟩
 ·obtain rfl:x=k:=om
  exact h
theorem ox {n k:Nat} (hn:n<4) (hk:k<4) {Q:Int->Prop} (h:Q (chz n k)):h_ n k Q:=nY hn hk h
theorem oU {n k:Nat} (hn:n<4) (hk:k<4) {Q:Int->Prop} (h:Q (chz n k)):iH n k Q:=nY hn hk h
theorem vQ {a:GRat} {p:Rat} {k:Nat} {K:GRat->Prop} (ha:Rp k a p) (hk:k+65<=cap) (h:Rp (k+65) (aO (1-p)) (1-p)->K (aO (1-p))):cP (eV a) K:=by
 refine⟨aO (1-p),t7 (by unfold rng;omega) λh1=>tc h1 ha (by simp only[cap] at hk ⊢;omega) λ_=>rfl,h ?_⟩
 exact .of ((i3 (fJ (n:=1) (by unfold rng;omega)) ha.2.2).mono om) hk
def ku (p:GRat) (f:List GRat):Nat->Rat
 | 0=>a_ p
 | k+1=>ku p f k*a_ (at' f (k:Int))
def qd (p:GRat) (f:List GRat) (k:Nat):Rat:=if k<f.length then ku p f k*(1-a_ (at' f (k:Int))) else ku p f k
def tn (p:GRat) (f:List GRat) (k:Nat):Rat:=qd p f k / ((chz (f.length:Nat) k:Int):Rat)
def er (p:GRat) (f:List GRat):List GRat×Int:=
 if cn p=false\/dD f=false then ([],3) else if f.length<1\/3<f.length then ([],11)
 else ((List.range (f.length+1)).map (λk=>aO (tn p f k)),0)
def Sh (a:GRat):Prop:=Rp 1281 a (a_ a)
def Shs (l:List GRat):Prop:=l.length<=60/\∀i:Nat,i<l.length->Sh (at' l (i:Int))
theorem mq {p:GRat} {f:List GRat} (hp:Sh p) (hf:∀i:Nat,i<f.length->Sh (at' f (i:Int))):∀k,k<=f.length->RB (1281*(k+1)) (ku p f k)
 | 0,_=>hp.2.2
 | k+1,h=>(kS (mq hp hf k om) (hf k om).2.2).mono om
theorem tm {p:GRat} {f:List GRat} (hp:Sh p) (hf:∀i:Nat,i<f.length->Sh (at' f (i:Int))) {k:Nat} (h:k<=f.length):RB (1281*(k+1)+1346) (qd p f k):=by
 unfold qd
 split
 ·rename_i hk
  exact(kS (mq hp hf k h) (i3 (fJ (n:=1) (by unfold rng;omega)) (hf k hk).2.2)).mono om
 ·exact(mq hp hf k h).mono om
theorem ru {n k:Nat} (hn:n<4) (hk:k<4):rng (chz n k):=by
 have:=(nD n hn k hk).1
 unfold rng;omega
theorem yi {p:GRat} {f:List GRat} (hp:Sh p) (hf:∀i:Nat,i<f.length->Sh (at' f (i:Int))) {k:Nat} (h:k<=f.length) (h3:f.length<=3):RB (1281*(k+1)+1410) (tn p f k):=
 (mc (tm hp hf h) (fJ (ru om om))).mono om
theorem wC {n k:Nat} (hn:n<4) (hk:k<=n):((chz n k:Int):Rat)≠0:=by
 have:=(nD n hn k om).2.2 hk
 intro e
 have h2:((chz n k:Int):Rat)=((0:Int):Rat):=e
 rw[Rat.intCast_inj] at h2
 omega
theorem qE {p:GRat} {f:List GRat} (hp:Sh p) (hf:∀i:Nat,i<f.length->Sh (at' f (i:Int))):∀i:Nat,i<(er p f).1.length->Rp 10000 (at' (er p f).1 (i:Int)) (tn p f i):=by
 unfold er
 intro i hi
 split at hi
 ·simp at hi
 ·split at hi
  ·simp at hi
  ·rename_i h1 h2
   rw[if_neg h1,if_neg h2]
   simp only[List.length_map,List.length_range] at hi
   show Rp 10000 (at' ((List.range (f.length+1)).map _) (i:Int)) _
   rw[xE hi]
   exact .of ((yi hp hf om om).mono om) (by decide)
set_option maxHeartbeats 1000000 in
theorem p6 {p:GRat} {f:List GRat} {Q:List GRat->Int->Prop} (hp:Sh p) (hl:f.length<=60) (hf:∀i:Nat,i<f.length->Sh (at' f (i:Int))) (h:Q (er p f).1 (er p f).2):jj p f Q:=by
 refine⟨λy=>y=decide (cn p=false\/dD f=false),?_,?_⟩
 ·refine ik hp.1 hp.2.2 (by decide) (bS (λhc=>?_) (λhc=>ji om (λi hi=>⟨(hf i hi).1,(hf i hi).2.2⟩) (by decide) ?_))
  ·rw[decide_eq_true (Or.inl (by simpa using hc))]
  ·simp only[Bool.not_eq_false'] at hc
   rw[hc]
   cases dD f<;>rfl
 ·rintro _ rfl
  unfold er at h
  refine condT (λhc=>?_) (λhc=>?_)
  ·rw[if_pos hc] at h;exact h
  rw[if_neg hc] at h
  refine⟨λy=>y=decide (f.length<1\/3<f.length),?_,?_⟩
  ·refine condT (λh1=>?_) (λh1=>?_)
   ·rw[decide_eq_true (Or.inl om)]
   ·exact decide_eq_decide.2 om
  ·rintro _ rfl
   refine condT (λh1=>?_) (λh1=>?_)
   ·rw[if_pos h1] at h;exact h
   rw[if_neg h1] at h
   rw[not_or] at hc
   have hpo:=so (a:=p) (by simpa using hc.1)
   refine⟨by unfold rng;omega,?_⟩
   refine⟨λy=>∃k:Nat,k<=f.length+1/\y=((k:Int)+1,aO (ku p f (min k f.length)),(List.range k).map (λk=>aO (tn p f k))),λy=>f.length+2-y.1.toNat,⟨0,by omega,?_⟩,?_⟩
   ·rw[Nat.zero_min,show aO (ku p f 0)=p from hpo.1.symm];rfl
   rintro _ ⟨k,hk,rfl⟩
   refine condT (λh2=>?_) (λh2=>?_)
   ·have hk2:k<=f.length:=om
    rw[Nat.min_eq_left hk2]
    have hr:=Rp.of (mq hp hf k hk2) (show 1281*(k+1)<=cap by simp only[cap];omega)
    have hown:=Rp.of (tm hp hf hk2) (show 1281*(k+1)+1346<=cap by simp only[cap];omega)
    have e1:((k:Int)+1-1)=(k:Int):=om
    have e2:((f.length:Int)+1-1)=((f.length:Nat):Int):=om
    refine⟨λy=>y=(aO (ku p f (min (k+1) f.length)),aO (qd p f k)),?_,?_⟩
    ·refine condT (λh3=>?_) (λh3=>?_)
     ·have h4:k<f.length:=om
      rw[e1]
      refine⟨by unfold rng;omega,⟨by omega,by omega⟩,vQ (hf k h4) (by decide) λh5=>we hr h5 (by simp only[cap];omega) λh6=>⟨by unfold rng;omega,⟨by omega,by omega⟩,we hr (hf k h4) (by simp only[cap];omega) λh7=>?_⟩⟩
      rw[Nat.min_eq_left (show k+1<=f.length by omega),qd,if_pos h4]
      rfl
     ·have h4:k=f.length:=om
      rw[Nat.min_eq_right (show f.length<=k+1 by omega),qd,if_neg om,h4]
    ·rintro _ rfl
     rw[e1,e2]
     refine⟨by unfold rng;omega,by unfold rng;omega,⟨_,oU om om rfl,t7 (ru om om) λh5=>ww hown h5 (by simp only[cap];omega) (wC om om) λh6=>⟨by simp;omega,by unfold rng;omega,⟨k+1,by omega,?_⟩,by dsimp only;omega⟩⟩⟩
     rw[List.range_succ,List.map_append]
     rfl
   ·obtain rfl:k=f.length+1:=om
    exact h
end Go.Gg
namespace Go.Gg
theorem up {p q:GRat} (hp:Sh p) (hq:Sh q):∀i:Nat,i < [p,q].length->Sh (at' [p,q] (i:Int)):=λi hi=>by
 match i with
 | 0=>exact hp
 | 1=>exact hq
 | i+2=>exact absurd hi (by simp)
set_option maxHeartbeats 1000000 in
theorem kK {p:GRat} {f:List GRat} {Q:List GRat->Option Int->Prop} (hp:Sh p) (hl:f.length<=60) (hf:∀i:Nat,i<f.length->Sh (at' f (i:Int))) (h:Q (er p f).1 (nB (er p f).2)):fX p f Q:=by
 refine⟨λy=>y=decide (cn p=false\/dD f=false),?_,?_⟩
 ·refine eO (by simp) (λi hi=>?_) (bS (λhc=>?_) (λhc=>eO om (λi hi=>(hf i hi).1) ?_))
  ·match i with
   | 0=>exact hp.1
   | i+1=>exact absurd hi (by simp)
  ·rw[ph] at hc
   rw[decide_eq_true (Or.inl (by simpa using hc))]
  ·rw[ph] at hc
   simp only[Bool.not_eq_false'] at hc
   rw[hc]
   cases dD f<;>rfl
 ·rintro _ rfl
  unfold er at h
  refine condT (λhc=>?_) (λhc=>?_)
  ·rw[if_pos hc] at h;exact h
  rw[if_neg hc] at h
  refine⟨λy=>y=decide (f.length<1\/3<f.length),?_,?_⟩
  ·refine condT (λh1=>?_) (λh1=>?_)
   ·rw[decide_eq_true (Or.inl om)]
   ·exact decide_eq_decide.2 om
  ·rintro _ rfl
   refine condT (λh1=>?_) (λh1=>?_)
   ·rw[if_pos h1] at h;exact h
   rw[if_neg h1] at h
   rw[not_or] at hc
   have hpo:=so (a:=p) (by simpa using hc.1)
   refine⟨by unfold rng;omega,?_⟩
   refine⟨λy=>∃k:Nat,k<=f.length+1/\y=((k:Int)+1,aO (ku p f (min k f.length)),(List.range k).map (λk=>aO (tn p f k))),λy=>f.length+2-y.1.toNat,⟨0,by omega,?_⟩,?_⟩
   ·rw[Nat.zero_min,show aO (ku p f 0)=p from hpo.1.symm];rfl
   rintro _ ⟨k,hk,rfl⟩
   refine condT (λh2=>?_) (λh2=>?_)
   ·have hk2:k<=f.length:=om
    rw[Nat.min_eq_left hk2]
    have hr:=Rp.of (mq hp hf k hk2) (show 1281*(k+1)<=cap by simp only[cap];omega)
    have hown:=Rp.of (tm hp hf hk2) (show 1281*(k+1)+1346<=cap by simp only[cap];omega)
    have e1:((k:Int)+1-1)=(k:Int):=om
    have e2:((f.length:Int)+1-1)=((f.length:Nat):Int):=om
    refine⟨λy=>y=(aO (ku p f (min (k+1) f.length)),aO (qd p f k)),?_,?_⟩
    ·refine condT (λh3=>?_) (λh3=>?_)
     ·have h4:k<f.length:=om
      rw[e1]
      refine v5 (by unfold rng;omega) λh0=>⟨by unfold rng;omega,⟨by omega,by omega⟩,te h0 (hf k h4) (by decide) λh5=>wh hr h5 (by simp only[cap];omega) λh6=>⟨by unfold rng;omega,⟨by omega,by omega⟩,wh hr (hf k h4) (by simp only[cap];omega) λh7=>?_⟩⟩
      rw[Nat.min_eq_left (show k+1<=f.length by omega),qd,if_pos h4]
      rfl
     ·have h4:k=f.length:=om
      rw[Nat.min_eq_right (show f.length<=k+1 by omega),qd,if_neg om,h4]
    ·rintro _ rfl
     rw[e1,e2]
     refine⟨by unfold rng;omega,by unfold rng;omega,⟨_,ox om om rfl,v5 (ru om om) λh5=>wx hown h5 (by simp only[cap];omega) (wC om om) λh6=>bS (λhh=>by cases hh) (λ_=>⟨by simp;omega,by unfold rng;omega,⟨k+1,by omega,?_⟩,by dsimp only;omega⟩)⟩⟩
     rw[List.range_succ,List.map_append]
     rfl
   ·obtain rfl:k=f.length+1:=om
    exact h
def gd (p b:GRat):GRat×GRat×Int:=
 if cn p=false\/cn b=false then (aO 0,aO 0,3)
 else if 1-a_ b*a_ p=0 then (aO 0,aO (a_ b*a_ p),0)
 else (aO ((a_ p-a_ b*a_ p) / (1-a_ b*a_ p)),aO (a_ b*a_ p),0)
theorem lN {p b:GRat} {Q:GRat->GRat->Option Int->Prop} (hp:Sh p) (hb:Sh b) (h:Q (gd p b).1 (gd p b).2.1 (nB (gd p b).2.2)):gI p b Q:=by
 unfold gd at h
 refine eO (by simp) (λi hi=>(up hp hb i hi).1) ?_
 rw[pg]
 refine bS (λhc=>?_) (λhc=>?_)
 ·rw[if_pos (by cases h1:cn p<;>cases h2:cn b<;>simp_all)] at h;exact h
 rw[if_neg (by cases h1:cn p<;>cases h2:cn b<;>simp_all)] at h
 refine xO hb hp (by decide) λh1=>v5 (by unfold rng;omega) λh2=>te h2 h1 (by decide) λh3=>yc h3 (ce (λhz=>?_) (λhz=>?_))
 ·rw[if_pos (show 1-a_ b*a_ p=0 from kW.1 hz)] at h;exact h
 ·have hz2:1-a_ b*a_ p≠0:=λe=>hz (kW.2 e)
  rw[if_neg hz2] at h
  exact te hp h1 (by decide) λh4=>wx h4 h3 (by decide) hz2 λh5=>h
theorem qX {a:GRat} {p:Rat} {k:Nat} {Q:GRat->Prop} (ha:Rp k a p) (hk:k+65<=cap) (h:Rp (k+65) (aO (1-p)) (1-p)->Q (aO (1-p))):eV a Q:=by
 refine t7 (by unfold rng;omega) λh1=>tc h1 ha (by simp only[cap] at hk ⊢;omega) λh2=>h ?_
 exact .of ((i3 (fJ (n:=1) (by unfold rng;omega)) ha.2.2).mono om) hk
theorem qY {p b:GRat} {Q:GRat->GRat->Int->Prop} (hp:Sh p) (hb:Sh b) (h:Q (gd p b).1 (gd p b).2.1 (gd p b).2.2):jQ p b Q:=by
 unfold gd at h
 refine⟨λy=>y=decide (cn p=false\/cn b=false),?_,?_⟩
 ·refine ik hp.1 hp.2.2 (by decide) (bS (λhc=>?_) (λhc=>ik hb.1 hb.2.2 (by decide) ?_))
  ·rw[decide_eq_true (Or.inl (by simpa using hc))]
  ·simp only[Bool.not_eq_false'] at hc
   rw[hc]
   cases cn b<;>rfl
 rintro _ rfl
 refine condT (λhc=>?_) (λhc=>?_)
 ·rw[if_pos hc] at h;exact h
 rw[if_neg hc] at h
 refine xN hb hp (by decide) λh1=>qX h1 (by decide) λh3=>vK h3 (ce (λhz=>?_) (λhz=>?_))
 ·rw[if_pos (kW.1 hz)] at h;exact h
 ·have hz2:1-a_ b*a_ p≠0:=λe=>hz (kW.2 e)
  rw[if_neg hz2] at h
  exact tc hp h1 (by decide) λh4=>vQ h1 (by decide) λh3=>ww h4 h3 (by decide) hz2 λh5=>h
end Go.Gg
namespace Go.Gg
theorem qh {x:GRat} {Q:Bool->Prop} (h:∀b,(b=true->x.Num.length<=40/\x.Den.length<=40)->Q b):ju x Q:=
 condT (λh1=>h _ λh2=>⟨by omega,by have:=of_decide_eq_true h2;omega⟩) (λ_=>h _ λhh=>by cases hh)
theorem zb {a:GRat} (hw:WrR a) (h:a.Num.length<=40/\a.Den.length<=40):Sh a:=.self ⟨hw.1,hw.2,by omega,by omega⟩ ((xI hw.1 hw.2 h.1 h.2).mono om)
theorem lH {l:List GRat} {Q:Bool->Prop} (la:l.length<=9223372036854775807) (hw:WrL l) (h:∀b,(b=true->l.length<=60/\∀i:Nat,i<l.length->Sh (at' l (i:Int)))->Q b):gE l Q:=by
 refine i8 (λi=>¬Sh (at' l (i:Int))) la (λi next hi hI hnx=>⟨⟨by omega,by omega⟩,qh λb hb=>bS (λ_=>h _ λhh=>by cases hh) (λhb2=>hnx (λhn=>hn (zb (hw i hi) (hb (by simpa using hb2)))))⟩) (λhall=>h _ λhd=>⟨by have:=of_decide_eq_true hd;omega,λi hi=>Classical.not_not.1 (hall i hi)⟩)
theorem rk {n d:Int} {Q:GRat->Prop} (hn:rng n) (hd:rng d) (h0:d≠0) (h:Q (aO ((n:Rat) / (d:Rat)))):cm n d Q:=mw hn hd (λe=>absurd e h0) λ_=>h
theorem qj {a:GRat} {k:Nat} {q:Rat} {Q:Bool->Prop} (ha:Rp k a q) (h:Q true):fC a a Q:=pN ha.len.1 ha.len.2 (by rw[decide_eq_true rfl];exact h)
theorem gS {n d:Int} (hn:n.natAbs<64) (hd:d.natAbs<64):Rp 12 (aO ((n:Rat) / (d:Rat))) ((n:Rat) / (d:Rat)):=by
 have h1:∀m:Int,m.natAbs<64->RB 6 (m:Rat):=λm hm=>wL om hm
 exact .of ((mc (h1 n hn) (h1 d hd)).mono om) (by decide)
theorem kQ {q:Rat} {k:Nat} (h:Rp k (aO q) q) (hk:k<=1281):Sh (aO q):=by
 unfold Sh
 rw[cy]
 exact h.mono hk
theorem tL:gd (aO (((1:Int):Rat) / ((10:Int):Rat))) (aO (((1:Int):Rat) / ((2:Int):Rat)))=(aO (((1:Int):Rat) / ((19:Int):Rat)),aO (((1:Int):Rat) / ((20:Int):Rat)),0):=by
 unfold gd
 rw[gQ,gQ,cy,cy]
 rw[if_neg (by decide +kernel),if_neg (by decide +kernel)]
 have e1:(((1:Int):Rat) / ((10:Int):Rat)-((1:Int):Rat) / ((2:Int):Rat)*(((1:Int):Rat) / ((10:Int):Rat))) / (1-((1:Int):Rat) / ((2:Int):Rat)*(((1:Int):Rat) / ((10:Int):Rat)))=((1:Int):Rat) / ((19:Int):Rat):=by decide +kernel
 have e2:((1:Int):Rat) / ((2:Int):Rat)*(((1:Int):Rat) / ((10:Int):Rat))=((1:Int):Rat) / ((20:Int):Rat):=by decide +kernel
 rw[e1,e2]
theorem sV:er (aO ((1:Int):Rat)) [aO (((1:Int):Rat) / ((2:Int):Rat)),aO (((1:Int):Rat) / ((3:Int):Rat))]=([aO (((1:Int):Rat) / ((2:Int):Rat)),aO (((1:Int):Rat) / ((6:Int):Rat)),aO (((1:Int):Rat) / ((6:Int):Rat))],0):=by
 have h2:dD [aO (((1:Int):Rat) / ((2:Int):Rat)),aO (((1:Int):Rat) / ((3:Int):Rat))]=true:=by
  rw[pg,gQ,gQ];decide +kernel
 have h1:cn (aO ((1:Int):Rat))=true:=by rw[gQ];decide +kernel
 unfold er
 rw[if_neg (by rw[h1,h2];simp),if_neg (by simp)]
 have key:∀(p:GRat) (f:List GRat),f.length=2->a_ p=1->a_ (at' f ((0:Nat):Int))=((1:Int):Rat) / ((2:Int):Rat)->a_ (at' f ((1:Nat):Int))=((1:Int):Rat) / ((3:Int):Rat)->
   (List.range (f.length+1)).map (λk=>aO (tn p f k))=[aO (((1:Int):Rat) / ((2:Int):Rat)),aO (((1:Int):Rat) / ((6:Int):Rat)),aO (((1:Int):Rat) / ((6:Int):Rat))]:=by
  intro p f hl hp h0 h1
  have e:List.range 3=[0,1,2]:=rfl
  rw[hl,e]
  simp only[List.map_cons,List.map_nil,tn,qd,hl,ku,hp,h0,h1]
  have o0:(if 0<2 then 1*(1-((1:Int):Rat) / ((2:Int):Rat)) else 1) / ((chz ((2:Nat):Int) 0:Int):Rat)=((1:Int):Rat) / ((2:Int):Rat):=by decide +kernel
  have o1:(if 1<2 then 1*(((1:Int):Rat) / ((2:Int):Rat))*(1-((1:Int):Rat) / ((3:Int):Rat)) else 1*(((1:Int):Rat) / ((2:Int):Rat))) / ((chz ((2:Nat):Int) 1:Int):Rat)=((1:Int):Rat) / ((6:Int):Rat):=by decide +kernel
  have o2:(1*(((1:Int):Rat) / ((2:Int):Rat))*(((1:Int):Rat) / ((3:Int):Rat))) / ((chz ((2:Nat):Int) 2:Int):Rat)=((1:Int):Rat) / ((6:Int):Rat):=by decide +kernel
  rw[if_neg (show ¬2<2 by omega),o0,o1,o2]
 exact congrArg (λl=>(l,(0:Int))) (key _ _ rfl (cy _) (cy _) (cy _))
theorem lI {Q:Bool->Prop} (h:Q true):gF Q:=by
 have r:∀n:Int,n.natAbs<64->rng n:=λn hn=>by unfold rng;omega
 have pt:∀ {n d:Int} {Q:GRat->Prop},n.natAbs<64->d.natAbs<64->d≠0->Q (aO ((n:Rat) / (d:Rat)))->cm n d Q:=λh1 h2 h3 h4=>rk (r _ h1) (r _ h2) h3 h4
 refine pt (by decide) (by decide) (by decide) (pt (by decide) (by decide) (by decide) ?_)
 refine lN (kQ (gS (by decide) (by decide)) om) (kQ (gS (by decide) (by decide)) om) ?_
 refine zo (by unfold rng;omega) λh1=>pt (by decide) (by decide) (by decide) (pt (by decide) (by decide) (by decide) ?_)
 refine kK (kQ h1 om) (by simp) (up (kQ (gS (by decide) (by decide)) om) (kQ (gS (by decide) (by decide)) om)) ?_
 rw[tL,sV]
 refine bS (λ_=>bS (λ_=>?_) (λhh=>by cases hh)) (λhh=>by cases hh)
 have same:∀ {n d:Int} {K:Bool->Prop},n.natAbs<64->d.natAbs<64->K true->cP (fC (aO ((n:Rat) / (d:Rat))) (aO ((n:Rat) / (d:Rat)))) K:=λh1 h2 h3=>⟨true,qj (gS h1 h2) rfl,h3⟩
 refine⟨_,pt (by decide) (by decide) (by decide) rfl,same (by decide) (by decide) (bS (λ_=>?_) (λhh=>by cases hh))⟩
 refine⟨_,pt (by decide) (by decide) (by decide) rfl,same (by decide) (by decide) (bS (λ_=>?_) (λhh=>by cases hh))⟩
 refine⟨_,pt (by decide) (by decide) (by decide) rfl,_,pt (by decide) (by decide) (by decide) rfl,_,pt (by decide) (by decide) (by decide) rfl,true,kN (by simp) (λi hi=>?_) rfl,h⟩
 match i with
 | 0=>exact(gS (n:=1) (d:=2) (by decide) (by decide)).len
 | 1=>exact(gS (n:=1) (d:=6) (by decide) (by decide)).len
 | 2=>exact(gS (n:=1) (d:=6) (by decide) (by decide)).len
 | i+3=>exact absurd hi (by simp)
theorem rI {p b:GRat} (hp:Sh p) (hb:Sh b):(∃k q,Rp k (gd p b).1 q)/\∃k q,Rp k (gd p b).2.1 q:=by
 have h1:=kS hb.2.2 hp.2.2
 unfold gd
 split
 ·exact⟨⟨1,0,.zero om (by decide)⟩,⟨1,0,.zero om (by decide)⟩⟩
 ·split
  ·exact⟨⟨1,0,.zero om (by decide)⟩,⟨_,_,.of h1 (by decide)⟩⟩
  ·exact⟨⟨_,_,.of (mc (i3 hp.2.2 h1) (i3 (fJ (n:=1) (by unfold rng;omega)) h1)) (by decide)⟩,⟨_,_,.of h1 (by decide)⟩⟩
end Go.Gg
namespace Go.Gg
theorem dG {α:Type} [Inhabited α] {l:List α} {i:Nat} (h:i<l.length):l.take (i+1)=l.take i++[at' l (i:Int)]:=by
 rw[List.take_add_one,List.getElem?_eq_getElem h]
 simp[at',List.getD_eq_getElem?_getD,h]
theorem kG {v:Int} {s:List Int}:v∈s↔∃i:Nat,i<s.length/\v=at' s (i:Int):=by
 rw[List.mem_iff_getElem]
 constructor
 ·rintro⟨i,hi,rfl⟩
  exact⟨i,hi,by simp[at',List.getD_eq_getElem?_getD,hi]⟩
 ·rintro⟨i,hi,rfl⟩
  exact⟨i,hi,by simp[at',List.getD_eq_getElem?_getD,hi]⟩
theorem tI {v:Int} {s:List Int} {Q:Bool->Prop} (hl:s.length<=9223372036854775807) (h:Q (decide (v∈s))):bY v s Q:=by
 unfold bY c5
 refine i8 (λi=>v=at' s (i:Int)) hl (λi next hi hI hnx=>⟨⟨by omega,by omega⟩,ce (λhc=>?_) hnx⟩) (λhall=>?_)
 ·show Q (decide (0<=(i:Int)))
  rw[decide_eq_true (kG.2 ⟨i,hi,hc⟩)] at h
  rw[decide_eq_true om];exact h
 ·show Q false
  rw[decide_eq_false (λhm=>by obtain⟨i,hi,e⟩:=kG.1 hm;exact hall i hi e)] at h
  exact h
def lY (n:Nat) (ms g:List Int) (i:Nat):Int:=
 if at' g (i:Int)<0\/(n:Int)<=at' g (i:Int) then 10 else if at' g (i:Int)∈ms++g.take i then 6 else 0
def iS (g:GCauseGroup):Int:=if g.Kind=1 then 4 else 24
def l5 (g:GCauseGroup):Int:=if g.Kind=1 then (g.Members.length:Int)-1 else 1
def sP (g:GCauseGroup) (p:List GRat) (ms:List Int):Int:=
 if g.Kind≠0/\g.Kind≠1 then 7
 else if g.Members.length<2\/iS g<g.Members.length\/(g.Factors.length:Int)≠l5 g then 11
 else if h9 (lY p.length ms g.Members) g.Members.length≠0 then h9 (lY p.length ms g.Members) g.Members.length
 else if dD g.Factors=false then 3
 else if ∃i<g.Members.length,a_ (at' p (at' g.Members (i:Int)))≠a_ (at' p (at' g.Members 0)) then 3 else 0
def ShG (g:GCauseGroup):Prop:=g.Members.length<=60/\Shs g.Factors
theorem ri {n:Nat} {ms g:List Int} {i:Nat} (h:lY n ms g i=0):0<=at' g (i:Int)/\at' g (i:Int)<n/\at' g (i:Int)∉ms++g.take i:=by
 unfold lY at h
 split at h
 ·cases h
 ·split at h
  ·cases h
  ·rename_i h1 h2
   exact⟨by omega,by omega,h2⟩
theorem n0 {p:List GRat} (hp:Shs p) {i:Int} (h0:0<=i) (h1:i<p.length):Sh (at' p i):=by
 obtain⟨n,rfl⟩:=Int.eq_ofNat_of_zero_le h0
 exact hp.2 n om
theorem sub_zero {a b:Rat}:iD (a-b)=0↔a=b:=by
 rw[kW]
 exact⟨λh=>by rw[<-Rat.sub_add_cancel (a:=a) (b:=b),h,Rat.zero_add],λh=>by rw[h,Rat.sub_self]⟩
theorem lw {g:GCauseGroup} {p:List GRat} {ms:List Int} {Q:List Int->Option Int->Prop} (hg:ShG g) (hp:Shs p) (hm:ms.length<=1000000)
  (h:∀m,(sP g p ms=0->m=ms++g.Members)->Q m (nB (sP g p ms))):d_ g p ms Q:=by
 obtain⟨hg1,hg2⟩:=hg
 unfold sP at h
 refine⟨λy=>y=decide (g.Kind≠0/\g.Kind≠1),dz (λh0=>?_) (λh0=>?_),?_⟩
 ·show(g.Kind != 1)=_
  rw[Bool.eq_iff_iff]
  simp[h0]
 ·show false=_
  simp[h0]
 rintro _ rfl
 refine condT (λhc=>?_) (λhc=>?_)
 ·rw[if_pos hc] at h;exact h _ (λhh=>by cases hh)
 rw[if_neg hc] at h
 refine⟨λy=>y=(iS g,l5 g),ce (λh0=>⟨by unfold rng;omega,by unfold iS l5;rw[if_pos h0,if_pos h0]⟩) (λh0=>by unfold iS l5;rw[if_neg h0,if_neg h0]),?_⟩
 rintro _ rfl
 refine⟨λy=>y=decide (g.Members.length<2\/iS g<g.Members.length\/(g.Factors.length:Int)≠l5 g),condT (λa=>(decide_eq_true (Or.inl om)).symm) (λa=>condT (λb=>(decide_eq_true (Or.inr (Or.inl b))).symm) (λb=>?_)),?_⟩
 ·show((g.Factors.length:Int) != l5 g)=_
  rw[Bool.eq_iff_iff,bne_iff_ne,decide_eq_true_iff]
  exact⟨λc=>Or.inr (Or.inr c),λc=>by
   rcases c with c | c | c
   ·exact absurd om a
   ·exact absurd c b
   ·exact c⟩
 rintro _ rfl
 refine condT (λhc2=>?_) (λhc2=>?_)
 ·rw[if_pos hc2] at h;exact h _ (λhh=>by cases hh)
 rw[if_neg hc2] at h
 refine iq (n:=g.Members.length) (λi y=>y=((i:Int),ms++g.Members.take i)/\∀j,j<i->lY p.length ms g.Members j=0) (λy=>y.1) 0 (λi y hy=>by rw[hy.1,Int.add_zero]) ⟨by rw[List.take_zero,List.append_nil];rfl,λj hj=>absurd hj om⟩ ?_ ?_
 ·rintro i _ next hi ⟨rfl,hI⟩ hn
  refine condT (λhc3=>⟨⟨by omega,by omega⟩,λy=>y=decide (at' g.Members (i:Int)<0\/(p.length:Int)<=at' g.Members (i:Int)),condT (λa=>(decide_eq_true (Or.inl a)).symm) (λa=>decide_eq_decide.2 ⟨Or.inr,λhh=>hh.resolve_left a⟩),?_⟩) (λhc3=>absurd (show(i:Int)<(g.Members.length:Int) by omega) hc3)
  rintro _ rfl
  refine condT (λa=>?_) (λa=>?_)
  ·have e:lY p.length ms g.Members i=10:=if_pos a
   have e1:=eN hI (by rw[e];decide) _ hi
   rw[e1,e,if_pos (by decide)] at h
   exact h _ (λhh=>by cases hh)
  refine tI (by simp;omega) (condT (λb=>?_) (λb=>?_))
  ·have e:lY p.length ms g.Members i=6:=by unfold lY;rw[if_neg a,if_pos b]
   have e1:=eN hI (by rw[e];decide) _ hi
   rw[e1,e,if_pos (by decide)] at h
   exact h _ (λhh=>by cases hh)
  refine⟨by simp;omega,by unfold rng;omega,hn _ ⟨?_,λj hj=>?_⟩⟩
  ·rw[dG hi,List.append_assoc]
   rfl
  ·rcases Nat.lt_or_ge j i with h1 | h1
   ·exact hI j h1
   ·obtain rfl:j=i:=om
    unfold lY;rw[if_neg a,if_neg b]
 ·rintro _ next ⟨rfl,hI⟩
  refine condT (λhc3=>absurd (show(g.Members.length:Int)<(g.Members.length:Int) from hc3) om) (λ_=>?_)
  rw[if_neg (by rw[cr.2 hI];simp)] at h
  rw[List.take_length]
  refine eO (by have:=hg2.1;omega) (λi hi=>(hg2.2 i hi).1) (bS (λhb=>?_) (λhb=>?_))
  ·rw[if_pos (by simpa using hb)] at h;exact h _ (λhh=>by cases hh)
  rw[if_neg (by simpa using hb)] at h
  have hin:∀j,j<g.Members.length->0<=at' g.Members (j:Int)/\at' g.Members (j:Int)<p.length:=λj hj=>by have:=ri (hI j hj);exact⟨this.1,this.2.1⟩
  refine i8 (λi=>a_ (at' p (at' g.Members (i:Int)))≠a_ (at' p (at' g.Members 0))) om (λi next hi hI2 hnx=>?_) (λhall=>?_)
  ·have h1:=hin i hi
   have h2:=hin 0 om
   refine⟨⟨by omega,by omega⟩,h1,⟨by omega,by omega⟩,h2,yv (n0 hp h1.1 h1.2) (n0 hp h2.1 h2.2) (by decide) (dz (λhne=>?_) (λhe=>?_))⟩
   ·rw[if_pos ⟨i,hi,λhh=>hne (sub_zero.2 hh)⟩] at h;exact h _ (λhh=>by cases hh)
   ·exact hnx (λhh=>hh (sub_zero.1 he))
  ·rw[if_neg (by rintro⟨i,hi,hb2⟩;exact hall i hi hb2)] at h
   exact h _ (λ_=>rfl)
theorem p5 {f:GFormula} {g:GCauseGroup} {p:List GRat} {ms:List Int} {Q:Int->Prop} (hv:(p.length:Int)=f.Vars) (hg:ShG g) (hp:Shs p) (hm:ms.length<=1000000)
  (h:Q (sP g p ms)):gi f p g ms Q:=by
 obtain⟨hg1,hg2⟩:=hg
 unfold sP at h
 refine⟨λy=>y=(iS g,l5 g),ce (λh0=>⟨by unfold rng;omega,by unfold iS l5;rw[if_pos h0,if_pos h0]⟩) (λh0=>by unfold iS l5;rw[if_neg h0,if_neg h0]),?_⟩
 rintro _ rfl
 refine⟨λ_=>¬(g.Kind≠0/\g.Kind≠1),dz (λh0=>dz (λh1=>?_) (λh1=>λhh=>hh.2 h1)) (λh0=>λhh=>hh.1 h0),?_⟩
 ·rw[if_pos ⟨h0,h1⟩] at h;exact h
 rintro _ hc
 rw[if_neg hc] at h
 refine condT (λa=>?_) (λa=>condT (λb=>?_) (λb=>dz (λc=>?_) (λc=>?_)))
 ·rw[if_pos (Or.inl om)] at h;exact h
 ·rw[if_pos (Or.inr (Or.inl b))] at h;exact h
 ·rw[if_pos (Or.inr (Or.inr c))] at h;exact h
 rw[if_neg (λd=>d.elim (λd=>a om) (λd=>d.elim b (λd=>d c)))] at h
 refine⟨by simp;omega,?_⟩
 refine iq (n:=g.Members.length) (λi y=>y=((i:Int),ms++g.Members.take i)/\∀j,j<i->lY p.length ms g.Members j=0) (λy=>y.1) 0 (λi y hy=>by rw[hy.1,Int.add_zero]) ⟨by rw[List.take_zero,List.append_nil];rfl,λj hj=>absurd hj om⟩ ?_ ?_
 ·rintro i _ next hi ⟨rfl,hI⟩ hn
  have hit:∀ {e:Int},lY p.length ms g.Members i=e->e≠0->h9 (lY p.length ms g.Members) g.Members.length=e:=λe he=>(eN hI (by rw[e];exact he) _ hi).trans e
  refine condT (λhc3=>⟨⟨by omega,by omega⟩,condT (λa2=>?_) (λa2=>condT (λa3=>?_) (λa3=>?_))⟩) (λhc3=>absurd (show(i:Int)<(g.Members.length:Int) by omega) hc3)
  ·rw[hit (if_pos (Or.inl a2)) (by decide),if_pos (by decide)] at h;exact h
  ·rw[hit (if_pos (Or.inr om)) (by decide),if_pos (by decide)] at h;exact h
  have a4:¬(at' g.Members (i:Int)<0\/(p.length:Int)<=at' g.Members (i:Int)):=om
  refine i8 (λk=>at' (ms++g.Members.take i) (k:Int)=at' g.Members (i:Int)) (by simp;omega) (λk next2 hk hK hnx=>⟨⟨by omega,by omega⟩,ce (λb2=>?_) (λb2=>hnx b2)⟩) (λhall=>?_)
  ·have e:lY p.length ms g.Members i=6:=by unfold lY;rw[if_neg a4,if_pos (kG.2 ⟨k,hk,b2.symm⟩)]
   rw[hit e (by decide),if_pos (by decide)] at h;exact h
  have b3:at' g.Members (i:Int)∉ms++g.Members.take i:=λhh=>by obtain⟨k,hk,e⟩:=kG.1 hh;exact hall k hk e.symm
  refine⟨by simp;omega,by unfold rng;omega,hn _ ⟨?_,λj hj=>?_⟩⟩
  ·rw[dG hi,List.append_assoc]
   rfl
  ·rcases Nat.lt_or_ge j i with h1 | h1
   ·exact hI j h1
   ·obtain rfl:j=i:=om
    unfold lY;rw[if_neg a4,if_neg b3]
 ·rintro _ next ⟨rfl,hI⟩
  refine condT (λhc3=>absurd (show(g.Members.length:Int)<(g.Members.length:Int) from hc3) om) (λ_=>?_)
  rw[if_neg (by rw[cr.2 hI];simp)] at h
  refine ji (k:=1281) (by have:=hg2.1;omega) (λi hi=>⟨(hg2.2 i hi).1,(hg2.2 i hi).2.2⟩) (by decide) (bS (λhb=>?_) (λhb=>?_))
  ·rw[if_pos (by simpa using hb)] at h;exact h
  rw[if_neg (by simpa using hb)] at h
  have hin:∀j,j<g.Members.length->0<=at' g.Members (j:Int)/\at' g.Members (j:Int)<p.length:=λj hj=>by have:=ri (hI j hj);exact⟨this.1,this.2.1⟩
  refine i8 (λi=>a_ (at' p (at' g.Members (i:Int)))≠a_ (at' p (at' g.Members 0))) om (λi next hi hI2 hnx=>?_) (λhall=>?_)
  ·have h1:=hin i hi
   have h2:=hin 0 om
   refine⟨⟨by omega,by omega⟩,h1,⟨by omega,by omega⟩,h2,wz (n0 hp h1.1 h1.2) (n0 hp h2.1 h2.2) (by decide) (dz (λhne=>?_) (λhe=>?_))⟩
   ·rw[if_pos ⟨i,hi,λhh=>hne (sub_zero.2 hh)⟩] at h;exact h
   ·exact hnx (λhh=>hh (sub_zero.1 he))
  ·rw[if_neg (by rintro⟨i,hi,hb2⟩;exact hall i hi hb2)] at h
   exact h
end Go.Gg
namespace Go.Gg
theorem rq {e:Int} {A B:Prop} (h0:e≠0->A) (h1:e=0->B):aj (Option.isSome (nB e)) A B:=by
 by_cases h:e=0
 ·rw[h];exact bS (λhc=>by cases hc) (λ_=>h1 h)
 ·refine bS (λ_=>h0 h) (λhc=>?_)
  unfold nB at hc
  rw[if_neg h] at hc
  cases hc
def cd (gs:List GCauseGroup) (k:Nat):List Int:=(gs.take k).flatMap (·.Members)
theorem eM {gs:List GCauseGroup} {k:Nat} (h:k<gs.length):cd gs (k+1)=cd gs k++(at' gs (k:Int)).Members:=by
 unfold cd
 rw[dG h,List.flatMap_append]
 simp
def rz (gs:List GCauseGroup):Prop:=gs.length<=30/\∀i:Nat,i<gs.length->ShG (at' gs (i:Int))
theorem gq {gs:List GCauseGroup} (h:rz gs):∀k,k<=gs.length->(cd gs k).length<=60*k
 | 0,_=>by simp[cd]
 | k+1,hk=>by
  rw[eM om,List.length_append]
  have:=gq h k om
  have:=(h.2 k om).1
  omega
def cgE (gs:List GCauseGroup) (p:List GRat) (k:Nat):Int:=sP (at' gs (k:Int)) p (cd gs k)
def mV (f:GFormula) (p:List GRat) (gs:List GCauseGroup):Int:=
 if sT f≠0 then sT f else if (p.length:Int)≠f.Vars then 11 else if dD p=false then 3 else h9 (cgE gs p) gs.length
theorem pG {f:GFormula} {p:List GRat} {gs:List GCauseGroup} {Q:Option Int->Prop} (ht:rng f.Top) (hp:Shs p) (hg:rz gs) (h:Q (nB (mV f p gs))):iX f p gs Q:=by
 unfold mV at h
 have g30:=hg.1
 refine ov ht (rq (λh0=>?_) (λh0=>?_))
 ·rw[if_pos h0] at h;exact h
 rw[if_neg (λhh=>hh h0)] at h
 refine dz (λa=>?_) (λa=>?_)
 ·rw[if_pos a] at h;exact h
 rw[if_neg (λhh=>hh a)] at h
 refine eO (by have:=hp.1;omega) (λi hi=>(hp.2 i hi).1) (bS (λb=>?_) (λb=>?_))
 ·rw[if_pos (by simpa using b)] at h;exact h
 rw[if_neg (by simpa using b)] at h
 refine iq (n:=gs.length) (λi y=>y=((i:Int),cd gs i)/\∀j,j<i->cgE gs p j=0) (λy=>y.1) 0 (λi y hy=>by rw[hy.1,Int.add_zero]) ⟨rfl,λj hj=>absurd hj om⟩ ?_ ?_
 ·rintro i _ next hi ⟨rfl,hI⟩ hn
  refine condT (λhc=>⟨⟨by omega,by omega⟩,lw (hg.2 i hi) hp (by have:=gq hg i om;omega) (λm hm=>rq (λe=>?_) (λe=>?_))⟩) (λhc=>absurd (show(i:Int)<(gs.length:Int) by omega) hc)
  ·rw[eN hI e _ hi] at h;exact h
  ·refine⟨by unfold rng;omega,hn _ ⟨by rw[hm e,eM hi];rfl,λj hj=>?_⟩⟩
   rcases Nat.lt_or_ge j i with h1 | h1
   ·exact hI j h1
   ·obtain rfl:j=i:=om
    exact e
 ·rintro _ next ⟨rfl,hI⟩
  refine condT (λhc3=>absurd (show(gs.length:Int)<(gs.length:Int) from hc3) om) (λ_=>?_)
  rw[cr.2 hI] at h;exact h
theorem p7 {f:GFormula} {p:List GRat} {gs:List GCauseGroup} {Q:Int->Prop} (ht:rng f.Top) (hp:Shs p) (hg:rz gs) (h:Q (mV f p gs)):jk f p gs Q:=by
 unfold mV at h
 have g30:=hg.1
 refine p9 ht (dz (λh0=>?_) (λh0=>?_))
 ·rw[if_pos h0] at h;exact h
 rw[if_neg (λhh=>hh h0)] at h
 refine dz (λa=>?_) (λa=>?_)
 ·rw[if_pos a] at h;exact h
 rw[if_neg (λhh=>hh a)] at h
 refine ji (k:=1281) (by have:=hp.1;omega) (λi hi=>⟨(hp.2 i hi).1,(hp.2 i hi).2.2⟩) (by decide) (bS (λb=>?_) (λb=>?_))
 ·rw[if_pos (by simpa using b)] at h;exact h
 rw[if_neg (by simpa using b)] at h
 refine iq (n:=gs.length) (λi y=>y=((i:Int),cd gs i)/\∀j,j<i->cgE gs p j=0) (λy=>y.1) 0 (λi y hy=>by rw[hy.1,Int.add_zero]) ⟨rfl,λj hj=>absurd hj om⟩ ?_ ?_
 ·rintro i _ next hi ⟨rfl,hI⟩ hn
  have ml:=gq hg i om
  refine condT (λhc=>⟨⟨by omega,by omega⟩,p5 a (hg.2 i hi) hp om (dz (λe=>?_) (λe=>?_))⟩) (λhc=>absurd (show(i:Int)<(gs.length:Int) by omega) hc)
  ·rw[eN hI e _ hi] at h;exact h
  ·refine⟨by have:=(hg.2 i hi).1;rw[List.length_append];omega,by unfold rng;omega,hn _ ⟨by rw[eM hi];rfl,λj hj=>?_⟩⟩
   rcases Nat.lt_or_ge j i with h1 | h1
   ·exact hI j h1
   ·obtain rfl:j=i:=om
    exact e
 ·rintro _ next ⟨rfl,hI⟩
  refine condT (λhc3=>absurd (show(gs.length:Int)<(gs.length:Int) from hc3) om) (λ_=>?_)
  rw[cr.2 hI] at h;exact h
theorem iW {x:GRat} {Q:GRat->Prop} (h1:x.Num.length<=1099511627776) (h2:x.Den.length<=1099511627776) (h:Q x):eP x Q:=by
 have cl:∀l:List Int,l.length<=1099511627776->b6 l λy=>y=l:=λl hl b hb=>by
  refine bS (λh=>(hb h).symm) (λ_=>⟨by simp;omega,by simp⟩)
 exact⟨_,cl _ h1,_,cl _ h2,h⟩
structure GOK (g:GCauseGroup) (p:List GRat) (ms:List Int):Prop where
 kind:g.Kind=0\/g.Kind=1
 two:2<=g.Members.length
 most:(g.Members.length:Int)<=iS g
 fac:(g.Factors.length:Int)=l5 g
 mem:∀i,i<g.Members.length->0<=at' g.Members (i:Int)/\at' g.Members (i:Int)<p.length/\at' g.Members (i:Int)∉ms++g.Members.take i
 prob:dD g.Factors=true
theorem GOK.of {g:GCauseGroup} {p:List GRat} {ms:List Int} (h:sP g p ms=0):GOK g p ms:=by
 unfold sP at h
 split at h
 ·cases h
 rename_i a
 split at h
 ·cases h
 rename_i b
 split at h
 ·rename_i c;exact absurd h c
 rename_i c
 split at h
 ·cases h
 rename_i d
 clear h
 exact⟨by omega,by omega,by omega,by omega,λi hi=>ri (cr.1 (by simpa using c) i hi),by simpa using d⟩
def fB (s n:Nat):Nat:=((List.range n).filter (λi=>inS s i)).length
def fy (ms:List Int) (s:Nat):List Int:=((List.range ms.length).filter (λi=>inS s i)).map (λi:Nat=>at' ms (i:Int))
def bb (g:GCauseGroup):List Nat:=if g.Kind=0 then [2^g.Members.length-1] else (List.range (2^g.Members.length)).filter (λs=>decide (1<fB s g.Members.length))
def nm (g:GCauseGroup) (p:GRat):GRat:=if g.Kind=0 then (gd p (at' g.Factors 0)).1 else at' (er p g.Factors).1 0
def jJ (g:GCauseGroup) (p:GRat) (s:Nat):GRat:=if g.Kind=0 then (gd p (at' g.Factors 0)).2.1 else at' (er p g.Factors).1 ((fB s g.Members.length:Int)-1)
theorem vI {ms:List Int} {s:Nat}:(fy ms s).length=fB s ms.length:=List.length_map ..
theorem mU {s n:Nat}:fB s n<=n:=by
 unfold fB
 have:=List.length_filter_le (λi=>inS s i) (List.range n)
 rwa[List.length_range] at this
theorem wt {n i:Nat} (h:i<n):inS (2^n-1) i=true:=by
 rw[xq,Nat.testBit_two_pow_sub_one,decide_eq_true h]
theorem vS {ms:List Int}:(List.range ms.length).map (λi:Nat=>at' ms (i:Int))=ms:=by
 refine List.ext_getElem (by simp) (λi h1 h2=>?_)
 simp[at',List.getD_eq_getElem?_getD,h2]
theorem ut {ms:List Int}:fy ms (2^ms.length-1)=ms:=by
 unfold fy
 rw[List.filter_eq_self.2 (λi hi=>wt (List.mem_range.1 hi)),vS]
theorem dY {p:Nat->Bool} {i:Nat}:(List.range (i+1)).filter p=(List.range i).filter p++(if p i then [i] else []):=by
 rw[List.range_succ,List.filter_append]
 cases h:p i<;>simp[h]
theorem uk {g:GCauseGroup} {p:List GRat} {q:GRat} {ms:List Int} (hg:GOK g p ms) (h0:g.Kind=0) (hq:cn q=true):(gd q (at' g.Factors 0)).2.2=0:=by
 have l1:(g.Factors.length:Int)=1:=by have:=hg.fac;unfold l5 at this;rwa[if_neg om] at this
 have hb:cn (at' g.Factors 0)=true:=qv hg.prob (i:=0) om
 unfold gd
 rw[if_neg (by rw[hq,hb];simp)]
 split<;>rfl
theorem pC {g:GCauseGroup} {p:List GRat} {q:GRat} {ms:List Int} (hg:GOK g p ms) (h0:g.Kind=1) (hq:cn q=true):(er q g.Factors).2=0/\(er q g.Factors).1.length=g.Members.length/\g.Members.length<=4:=by
 have l1:(g.Factors.length:Int)=(g.Members.length:Int)-1:=by have:=hg.fac;unfold l5 at this;rwa[if_pos h0] at this
 have l2:(g.Members.length:Int)<=4:=by have:=hg.most;unfold iS at this;rwa[if_pos h0] at this
 have l3:=hg.two
 unfold er
 rw[if_neg (by rw[hq,hg.prob];simp),if_neg om]
 exact⟨rfl,by simp;omega,by omega⟩
theorem oy {g:GCauseGroup} {p:List GRat} {q:GRat} {ms:List Int} {Q:List Gcause->GRat->Option Int->Prop} (hs:ShG g) (hg:GOK g p ms) (hp:Sh q) (hq:cn q=true)
  (h:Q ((bb g).map (λs=>⟨jJ g q s,fy g.Members s⟩)) (nm g q) none):ia g q Q:=by
 obtain⟨hs1,hs2⟩:=hs
 refine ce (λh0=>?_) (λh0=>?_)
 ·have l1:(g.Factors.length:Int)=1:=by have:=hg.fac;unfold l5 at this;rwa[if_neg om] at this
  have be:=uk hg h0 hq
  unfold bb nm jJ at h
  rw[if_pos h0,if_pos h0] at h
  simp only[List.map_cons,List.map_nil,if_pos h0,ut] at h
  refine⟨⟨by omega,by omega⟩,_,_,_,lN hp (n0 hs2 om om) ⟨rfl,rfl,rfl⟩,?_⟩
  rw[be]
  exact h
 have h1:g.Kind=1:=hg.kind.resolve_left h0
 obtain⟨ge,gl,g4⟩:=pC hg h1 hq
 refine kK hp (by have:=hs2.1;omega) hs2.2 (rq (λe=>absurd ge e) (λ_=>?_))
 have g2:=hg.two
 have pw:2^g.Members.length<=2^4:=Nat.pow_le_pow_right om g4
 have sh:=tk (n:=g.Members.length) om
 unfold bb nm at h
 rw[if_neg h0,if_neg h0] at h
 refine⟨sh,?_⟩
 rw[show(1*2^(Int.toNat (g.Members.length:Int)):Int)=((2^g.Members.length:Nat):Int) by simp]
 let F:Nat->Gcause:=λs=>⟨jJ g q s,fy g.Members s⟩
 have FL:∀i,(((List.range i).filter (λs=>decide (1<fB s g.Members.length))).map F).length<=i:=λi=>by
  rw[List.length_map]
  have:=List.length_filter_le (λs=>decide (1<fB s g.Members.length)) (List.range i)
  rwa[List.length_range] at this
 refine d6 (n:=2^g.Members.length) (λi=>((i:Int),((List.range i).filter (λs=>decide (1<fB s g.Members.length))).map F)) (λy=>y.1) 0 (λi=>by simp) rfl (λi next hi hn=>?_) (λnext=>?_)
 ·refine condT (λ_=>?_) (λhc=>absurd (show(i:Int)<((2^g.Members.length:Nat):Int) by omega) hc)
  refine d6 (n:=g.Members.length) (λj=>((j:Int),((List.range j).filter (λk=>inS i k)).map (λk:Nat=>at' g.Members (k:Int)))) (λy=>y.1) 0 (λj=>by simp) rfl (λj next2 hj hn2=>?_) (λnext2=>?_)
  ·refine condT (λ_=>⟨⟨by omega,by omega⟩,⟨by omega,by omega⟩,?_⟩) (λhc=>absurd (show(j:Int)<(g.Members.length:Int) by omega) hc)
   have ll:=List.length_filter_le (λk=>inS i k) (List.range j)
   rw[List.length_range] at ll
   rw[wH om]
   refine bS (λhb=>?_) (λhb=>?_)
   ·refine⟨by rw[List.length_append,List.length_map];simp;omega,by unfold rng;omega,?_⟩
    rw[dY,hb,if_pos rfl,List.map_append] at hn2
    exact hn2
   ·refine⟨by unfold rng;omega,?_⟩
    rw[dY,hb,if_neg (by simp),List.append_nil] at hn2
    exact hn2
  ·refine condT (λhc=>absurd (show(g.Members.length:Int)<(g.Members.length:Int) from hc) om) (λ_=>?_)
   have cl:((((List.range g.Members.length).filter (λk=>inS i k)).map (λk:Nat=>at' g.Members (k:Int))).length:Int)=(fB i g.Members.length:Nat):=by rw[List.length_map];rfl
   have c4:=mU (s:=i) (n:=g.Members.length)
   have fl:=FL i
   have hn3:=hn
   rw[dY] at hn3
   rw[cl]
   refine condT (λhc=>?_) (λhc=>?_)
   ·rw[if_pos (by simpa using (show 1<fB i g.Members.length by omega)),List.map_append] at hn3
    have e:F i=⟨at' (er q g.Factors).1 ((fB i g.Members.length:Int)-1),fy g.Members i⟩:=by
     show(⟨jJ g q i,fy g.Members i⟩:Gcause)=_
     unfold jJ
     rw[if_neg h0]
    refine⟨by unfold rng;omega,⟨by omega,by omega⟩,by rw[List.length_append];simp only[List.length_cons,List.length_nil];omega,by unfold rng;omega,?_⟩
    rw[List.map_cons,List.map_nil,e] at hn3
    exact hn3
   ·rw[if_neg (by simpa using (show ¬1<fB i g.Members.length by omega)),List.append_nil] at hn3
    exact⟨by unfold rng;omega,hn3⟩
 ·refine condT (λhc=>absurd (show((2^g.Members.length:Nat):Int)<((2^g.Members.length:Nat):Int) from hc) om) (λ_=>⟨⟨by omega,by omega⟩,h⟩)
end Go.Gg
namespace Go.Gg
theorem xC {s k:Nat} (hx:s<4294967296):bits .and .i64 ((s:Int) / 2^(Int.toNat (k:Int))) 1=if inS s k then 1 else 0:=by
 have e:((s:Int) / 2^(Int.toNat (k:Int)))=((s / 2^k:Nat):Int):=by rw[Int.toNat_natCast];simp
 have:=Nat.div_le_self s (2^k)
 unfold inS
 rw[e]
 generalize s / 2^k=z at this
 rw[pP om om]
 by_cases h:z % 2=1
 ·rw[decide_eq_true h,if_pos rfl];omega
 ·rw[decide_eq_false h,if_neg (by simp)];omega
theorem uW {n:Nat}:fB 0 n=0:=by
 unfold fB
 rw[List.length_eq_zero_iff,List.filter_eq_nil_iff]
 intro i _
 simp[inS]
theorem uX {s n:Nat}:fB s (n+1)=fB s n+if inS s n then 1 else 0:=by
 unfold fB
 rw[dY,List.length_append]
 cases inS s n<;>rfl
theorem oV {g:GCauseGroup} {p:List GRat} {q:GRat} {ms:List Int} {Q:List Int->List GRat->GRat->Prop} (hs:ShG g) (hg:GOK g p ms) (hp:Sh q) (hq:cn q=true)
  (h:Q ((bb g).map (λs:Nat=>(s:Int))) ((bb g).map (jJ g q)) (nm g q)):iI g q Q:=by
 obtain⟨hs1,hs2⟩:=hs
 have mo:iS g<=24:=by unfold iS;split<;>omega
 have g24:=hg.most
 refine ce (λh0=>?_) (λh0=>?_)
 ·have l1:(g.Factors.length:Int)=1:=by have:=hg.fac;unfold l5 at this;rwa[if_neg om] at this
  have be:=uk hg h0 hq
  unfold bb nm at h
  rw[if_pos h0,if_pos h0] at h
  have e1:jJ g q (2^g.Members.length-1)=(gd q (at' g.Factors 0)).2.1:=by unfold jJ;rw[if_pos h0]
  rw[List.map_cons,List.map_nil,List.map_cons,List.map_nil,e1] at h
  have sh:=tk (n:=g.Members.length) om
  have ep:(1*2^(Int.toNat (g.Members.length:Int)):Int)=((2^g.Members.length:Nat):Int):=by simp
  have pp:0<2^g.Members.length:=Nat.pow_pos om
  refine⟨⟨by omega,by omega⟩,_,_,_,qY hp (n0 hs2 om om) ⟨rfl,rfl,rfl⟩,sh,?_⟩
  have s2:=sh.2
  rw[ep] at s2 ⊢
  have e2:(((2^g.Members.length:Nat):Int)-1)=((2^g.Members.length-1:Nat):Int):=om
  refine⟨by unfold rng at s2 ⊢;omega,?_⟩
  rw[e2]
  exact h
 have h1:g.Kind=1:=hg.kind.resolve_left h0
 obtain⟨ge,gl,g4⟩:=pC hg h1 hq
 refine p6 hp (by have:=hs2.1;omega) hs2.2 ?_
 have g2:=hg.two
 have pw:2^g.Members.length<=2^4:=Nat.pow_le_pow_right om g4
 have pp:0<2^g.Members.length:=Nat.pow_pos om
 have sh:=tk (n:=g.Members.length) om
 unfold bb nm at h
 rw[if_neg h0,if_neg h0] at h
 have FL:∀ {α:Type} (F:Nat->α) i,(((List.range i).filter (λs=>decide (1<fB s g.Members.length))).map F).length<=i:=λF i=>by
  rw[List.length_map]
  have:=List.length_filter_le (λs=>decide (1<fB s g.Members.length)) (List.range i)
  rwa[List.length_range] at this
 have z0:(List.range (0+1)).filter (λs=>decide (1<fB s g.Members.length))=[]:=by
  rw[dY,uW];rfl
 refine d6 (n:=2^g.Members.length-1) (λi=>(((i+1:Nat):Int),((List.range (i+1)).filter (λs=>decide (1<fB s g.Members.length))).map (λs:Nat=>(s:Int)),((List.range (i+1)).filter (λs=>decide (1<fB s g.Members.length))).map (jJ g q))) (λy=>y.1) 1 (λi=>by simp) (by rw[z0];rfl) (λi next hi hn=>?_) (λnext=>?_)
 ·refine⟨sh,?_⟩
  rw[show(1*2^(Int.toNat (g.Members.length:Int)):Int)=((2^g.Members.length:Nat):Int) by simp]
  refine condT (λ_=>?_) (λhc=>absurd (show((i+1:Nat):Int)<((2^g.Members.length:Nat):Int) by omega) hc)
  refine d6 (n:=g.Members.length) (λj=>((fB (i+1) j:Int),(j:Int))) (λy=>y.2) 0 (λj=>by simp) rfl (λj next2 hj hn2=>?_) (λnext2=>?_)
  ·have cl:=mU (s:=i+1) (n:=j)
   refine condT (λ_=>⟨⟨by omega,by omega⟩,?_⟩) (λhc=>absurd (show(j:Int)<(g.Members.length:Int) by omega) hc)
   rw[xC om]
   rw[uX] at hn2
   have e3:((fB (i+1) j:Int)+if inS (i+1) j then 1 else 0)=((fB (i+1) j+if inS (i+1) j then 1 else 0:Nat):Int):=by split<;>omega
   refine⟨by unfold rng;split<;>omega,fH ⟨by unfold rng;omega,?_⟩⟩
   rw[e3]
   exact hn2
  ·refine condT (λhc=>absurd (show(g.Members.length:Int)<(g.Members.length:Int) from hc) om) (λ_=>?_)
   have c4:=mU (s:=i+1) (n:=g.Members.length)
   have fl:=FL (λs:Nat=>(s:Int)) (i+1)
   have fl2:=FL (jJ g q) (i+1)
   have hn3:=hn
   rw[dY] at hn3
   refine condT (λhc=>?_) (λhc=>?_)
   ·rw[if_pos (by simpa using (show 1<fB (i+1) g.Members.length by omega)),List.map_append,List.map_append] at hn3
    have e:jJ g q (i+1)=at' (er q g.Factors).1 ((fB (i+1) g.Members.length:Int)-1):=by
     unfold jJ
     rw[if_neg h0]
    refine⟨by rw[List.length_append];simp only[List.length_cons,List.length_nil];omega,by unfold rng;omega,⟨by omega,by omega⟩,by rw[List.length_append];simp only[List.length_cons,List.length_nil];omega,by unfold rng;omega,?_⟩
    rw[List.map_cons,List.map_nil,List.map_cons,List.map_nil,e] at hn3
    exact hn3
   ·rw[if_neg (by simpa using (show ¬1<fB (i+1) g.Members.length by omega)),List.append_nil] at hn3
    exact⟨by unfold rng;omega,hn3⟩
 ·refine⟨sh,?_⟩
  rw[show(1*2^(Int.toNat (g.Members.length:Int)):Int)=((2^g.Members.length:Nat):Int) by simp]
  have e4:2^g.Members.length-1+1=2^g.Members.length:=om
  rw[e4]
  refine condT (λhc=>absurd (show((2^g.Members.length:Nat):Int)<((2^g.Members.length:Nat):Int) from hc) om) (λ_=>⟨⟨by omega,by omega⟩,h⟩)
end Go.Gg
namespace Go.Gg
theorem wJ {α:Type} {T:List (Int×List α)} {i j:Int} {l:List α} (hj:j≠i):co (eh T i l) j=co T j:=by
 by_cases h:bC T j<T.length
 ·have:=(rl (l:=l) hj).2 h
  unfold co
  rw[this.1,kX,if_neg this.2]
 ·rw[gz h,gz (λhh=>h ((rl hj).1.1 hh))]
theorem oG {α β:Type} [Inhabited α] [Inhabited β] {g:α->β} {l:List α} {i:Nat} (h:i<l.length):at' (l.map g) (i:Int)=g (at' l (i:Int)):=by
 simp[at',List.getD_eq_getElem?_getD,h]
theorem mY {α:Type} [Inhabited α] {l:List α} {i j:Nat} (h:j<i):at' (l.take i) (j:Int)=at' l (j:Int):=by simp[at',List.getD_eq_getElem?_getD,h]
def gh (q:List GRat) (ms:List Int) (v:GRat):List GRat:=ms.foldl (λq i=>cg q i v) q
theorem jP {v:GRat}:∀ {ms:List Int} {q:List GRat},(gh q ms v).length=q.length
 | [],_=>rfl
 | _ :: ms,q=>(jP (ms:=ms)).trans (mN ..)
theorem nM {q:List GRat} {ms:List Int} {v:GRat} {j:Nat} (h:j<ms.length):gh q (ms.take (j+1)) v=cg (gh q (ms.take j) v) (at' ms (j:Int)) v:=by
 unfold gh
 rw[dG h,List.foldl_append]
 rfl
def fm (g:GCauseGroup) (p:List GRat):GRat:=at' p (at' g.Members 0)
def j_ (g:GCauseGroup) (p:List GRat):List GRat:=(bb g).map (jJ g (fm g p))
def qG (p:List GRat) (gs:List GCauseGroup):Nat->List GRat
 | 0=>p
 | k+1=>gh (qG p gs k++j_ (at' gs (k:Int)) p) (at' gs (k:Int)).Members (nm (at' gs (k:Int)) (fm (at' gs (k:Int)) p))
def i4 (g:GCauseGroup) (q:Nat) (j:Nat) (i:Int):List Int:=((List.range j).filter (λn:Nat=>decide (i∈fy g.Members (at' (bb g) (n:Int))))).map (λn:Nat=>((q+n:Nat):Int))
def stk (p:List GRat) (gs:List GCauseGroup):Nat->Int->List Int
 | 0,_=>[]
 | k+1,i=>stk p gs k i++i4 (at' gs (k:Int)) (qG p gs k).length (bb (at' gs (k:Int))).length i
theorem uw {g:GCauseGroup} {q j:Nat} {i:Int}:i4 g q (j+1) i=i4 g q j i++if i∈fy g.Members (at' (bb g) (j:Int)) then [((q+j:Nat):Int)] else []:=by
 unfold i4
 rw[dY,List.map_append]
 by_cases h:i∈fy g.Members (at' (bb g) (j:Int))
 ·rw[if_pos (decide_eq_true h),if_pos h];rfl
 ·rw[if_neg (by simpa using h),if_neg h];rfl
theorem rS {g:GCauseGroup} {q j:Nat} {i:Int}:(i4 g q j i).length<=j:=by
 unfold i4
 rw[List.length_map]
 have:=List.length_filter_le (λn:Nat=>decide (i∈fy g.Members (at' (bb g) (n:Int)))) (List.range j)
 rwa[List.length_range] at this
structure Acc (f:GFormula) (p:List GRat) (gs:List GCauseGroup):Prop where
 fg:FG f
 len:(p.length:Int)=f.Vars
 prob:dD p=true
 grp:∀k,k<gs.length->GOK (at' gs (k:Int)) p (cd gs k)
theorem Acc.of {f:GFormula} {p:List GRat} {gs:List GCauseGroup} (h:mV f p gs=0):Acc f p gs:=by
 unfold mV at h
 split at h
 ·rename_i a;exact absurd h a
 rename_i a
 split at h
 ·cases h
 rename_i b
 split at h
 ·cases h
 rename_i c
 exact⟨yw.1 (by simpa using a),by simpa using b,by simpa using c,λk hk=>GOK.of (cr.1 h k hk)⟩
theorem iT {g:GCauseGroup} {p:List GRat} {ms:List Int} (hg:GOK g p ms):(bb g).length<=16:=by
 unfold bb
 split
 ·simp
 ·rename_i h0
  have h1:g.Kind=1:=hg.kind.resolve_left h0
  have l2:(g.Members.length:Int)<=4:=by have:=hg.most;unfold iS at this;rwa[if_pos h1] at this
  have pw:2^g.Members.length<=2^4:=Nat.pow_le_pow_right om om
  have:=List.length_filter_le (λs=>decide (1<fB s g.Members.length)) (List.range (2^g.Members.length))
  rw[List.length_range] at this
  omega
theorem yh {p:List GRat} {gs:List GCauseGroup} {k:Nat}:(qG p gs (k+1)).length=(qG p gs k).length+(bb (at' gs (k:Int))).length:=by
 show(gh _ _ _).length=_
 rw[jP,List.length_append,j_,List.length_map]
theorem qt {f:GFormula} {p:List GRat} {gs:List GCauseGroup} (ha:Acc f p gs):∀k,k<=gs.length->p.length<=(qG p gs k).length/\(qG p gs k).length<=p.length+16*k
 | 0,_=>⟨Nat.le_refl _,Nat.le_refl _⟩
 | k+1,h=>by
  have:=qt ha k om
  have:=iT (ha.grp k om)
  rw[yh]
  omega
theorem mh {f:GFormula} {p:List GRat} {gs:List GCauseGroup} (ha:Acc f p gs) (i:Int):∀k,k<=gs.length->(stk p gs k i).length<=16*k
 | 0,_=>Nat.le_refl _
 | k+1,h=>by
  have:=mh ha i k om
  have:=iT (ha.grp k om)
  have h2:=rS (g:=at' gs (k:Int)) (q:=(qG p gs k).length) (j:=(bb (at' gs (k:Int))).length) (i:=i)
  show(stk p gs k i++i4 _ _ _ _).length<=_
  rw[List.length_append]
  omega
theorem nA {f:GFormula} {p:List GRat} {gs:List GCauseGroup} (ha:Acc f p gs) (hp:Shs p) {k:Nat} (hk:k<gs.length):Sh (fm (at' gs (k:Int)) p)/\cn (fm (at' gs (k:Int)) p)=true:=by
 have hg:=ha.grp k hk
 have h1:=hg.mem 0 (by have:=hg.two;omega)
 refine⟨n0 hp h1.1 h1.2.1,?_⟩
 obtain⟨n,hn⟩:=Int.eq_ofNat_of_zero_le h1.1
 have h2:=h1.2.1
 unfold fm
 rw[show((0:Nat):Int)=0 from rfl] at hn h2
 rw[hn] at h2 ⊢
 exact qv ha.prob om
def wM (x:GRat):Prop:=x.Num.length<=1099511627776/\x.Den.length<=1099511627776
theorem t4 {g:GCauseGroup} {p:List GRat} {q:GRat} {ms:List Int} (hs:ShG g) (hg:GOK g p ms) (hp:Sh q) (hq:cn q=true):wM (nm g q)/\∀s∈bb g,wM (jJ g q s):=by
 have g2:=hg.two
 unfold nm jJ bb
 by_cases h0:g.Kind=0
 ·have l1:(g.Factors.length:Int)=1:=by have:=hg.fac;unfold l5 at this;rwa[if_neg om] at this
  obtain⟨⟨_,_,h1⟩,_,_,h2⟩:=rI hp (n0 hs.2 (i:=0) om om)
  simp only[if_pos h0]
  exact⟨h1.len,λ_ _=>h2.len⟩
 ·have h1:g.Kind=1:=hg.kind.resolve_left h0
  obtain⟨ge,gl,g4⟩:=pC hg h1 hq
  simp only[if_neg h0]
  refine⟨(qE hp hs.2.2 0 om).len,λs hm=>?_⟩
  have hc:=of_decide_eq_true (List.mem_filter.1 hm).2
  have c4:=mU (s:=s) (n:=g.Members.length)
  have e:((fB s g.Members.length:Int)-1)=((fB s g.Members.length-1:Nat):Int):=om
  rw[e]
  exact(qE hp hs.2.2 _ om).len
theorem oO {P:GRat->Prop} {v:GRat} (hv:P v):∀ {ms:List Int} {q:List GRat},(∀x∈q,P x)->∀x∈gh q ms v,P x
 | [],_,h=>h
 | i :: ms,q,h=>oO hv (ms:=ms) (q:=cg q i v) λx hx=>by
  rcases List.mem_or_eq_of_mem_set hx with h1 | h1
  ·exact h x h1
  ·rw[h1];exact hv
theorem gJ {α:Type} [Inhabited α] {l:List α} {j:Nat} (h:j<l.length):at' l (j:Int)∈l:=by
 have:at' l (j:Int)=l[j]:=by simp[at',List.getD_eq_getElem?_getD,h]
 rw[this]
 exact List.getElem_mem h
theorem uq {p:List GRat} (hp:Shs p):∀x∈p,wM x:=λx hx=>by
 obtain⟨i,hi,rfl⟩:=List.mem_iff_getElem.1 hx
 have:=(hp.2 i hi).len
 have e:at' p (i:Int)=p[i]:=by simp[at',List.getD_eq_getElem?_getD,hi]
 rwa[e] at this
theorem vX {f:GFormula} {p:List GRat} {gs:List GCauseGroup} (ha:Acc f p gs) (hp:Shs p) (hs:rz gs):∀k,k<=gs.length->∀x∈qG p gs k,wM x
 | 0,_=>uq hp
 | k+1,h=>by
  have fo:=nA ha hp (k:=k) om
  have ol:=t4 (hs.2 k om) (ha.grp k om) fo.1 fo.2
  refine oO ol.1 (λx hx=>?_)
  rcases List.mem_append.1 hx with h1 | h1
  ·exact vX ha hp hs k om x h1
  ·obtain⟨s,hm,rfl⟩:=List.mem_map.1 h1
   exact ol.2 s hm
theorem GOK.ne {g:GCauseGroup} {p:List GRat} {ms:List Int} (hg:GOK g p ms) {a b:Nat} (h:a<b) (hb:b<g.Members.length):at' g.Members (a:Int)≠at' g.Members (b:Int):=λe=>
 (hg.mem b hb).2.2 (List.mem_append.2 (Or.inr (kG.2 ⟨a,by rw[List.length_take];omega,by rw[mY h,e]⟩)))
theorem GOK.inj {g:GCauseGroup} {p:List GRat} {ms:List Int} (hg:GOK g p ms) {a b:Nat} (ha:a<g.Members.length) (hb:b<g.Members.length) (h:at' g.Members (a:Int)=at' g.Members (b:Int)):a=b:=by
 rcases Nat.lt_trichotomy a b with h1 | h1 | h1
 ·exact absurd h (hg.ne h1 hb)
 ·exact h1
 ·exact absurd h.symm (hg.ne h1 ha)
theorem wY {g:GCauseGroup} {p:List GRat} {ms:List Int} (hg:GOK g p ms) {s a:Nat} (ha:a<g.Members.length):at' g.Members (a:Int)∈fy g.Members s↔inS s a=true:=by
 unfold fy
 rw[List.mem_map]
 constructor
 ·rintro⟨b,hb,e⟩
  have:=List.mem_filter.1 hb
  rw[hg.inj (List.mem_range.1 this.1) ha e] at this
  exact this.2
 ·intro h
  exact⟨a,List.mem_filter.2 ⟨List.mem_range.2 ha,h⟩,rfl⟩
theorem ya {ms:List Int} {s:Nat} {i:Int} (h:i∈fy ms s):i∈ms:=by
 obtain⟨b,hb,rfl⟩:=List.mem_map.1 h
 exact gJ (List.mem_range.1 (List.mem_filter.1 hb).1)
theorem wX {g:GCauseGroup} {p:List GRat} {ms:List Int} (hg:GOK g p ms) {s t:Nat} (ht:t<(fy g.Members s).length):at' (fy g.Members s) (t:Int)∉(fy g.Members s).take t:=by
 have hp:(fy g.Members s).Pairwise (·≠·):=by
  unfold fy
  rw[List.pairwise_map]
  have h1:((List.range g.Members.length).filter (λi=>inS s i)).Pairwise (· < ·):=List.Pairwise.filter _ List.pairwise_lt_range
  refine List.Pairwise.imp_of_mem (λ{a b} ma mb hab=>?_) h1
  exact hg.ne hab (List.mem_range.1 (List.mem_filter.1 mb).1)
 intro hm
 obtain⟨j,hj,e⟩:=kG.1 hm
 rw[List.length_take] at hj
 rw[mY om] at e
 have h2:=List.pairwise_iff_getElem.1 hp j t om ht om
 refine h2 ?_
 have e1:∀k (h:k<(fy g.Members s).length),at' (fy g.Members s) (k:Int)=(fy g.Members s)[k]:=λk h=>by simp[at',List.getD_eq_getElem?_getD,h]
 rw[<-e1 j,<-e1 t,e]
end Go.Gg
namespace Go.Gg
def ou (n i:Nat):List Int:=(List.range n).map λj=>if j<i then (j:Int) else 0
theorem pB {n i:Nat}:(ou n i).length=n:=by simp[ou]
theorem qD {v:Int}:fh v (0:Int)=ou v.toNat 0:=by
 refine List.ext_getElem (by simp[fh,ou]) (λi h1 h2=>?_)
 simp[fh,ou]
theorem sO {n i:Nat}:cg (ou n i) (i:Int) (i:Int)=ou n (i+1):=by
 refine List.ext_getElem (by simp[cg,ou]) (λj h1 h2=>?_)
 simp only[cg,ou,Int.toNat_natCast,List.getElem_set,List.getElem_map,List.getElem_range]
 split
 ·rw[if_pos om];omega
 ·by_cases h:j<i
  ·rw[if_pos h,if_pos om]
  ·rw[if_neg h,if_neg om]
def toG (v q:Nat) (ms:List Int):Nat->List Int
 | 0=>ou v v
 | t+1=>cg (toG v q ms t) (at' ms (t:Int)) ((q+t:Nat):Int)
theorem ig {v q:Nat} {ms:List Int}:∀ {t:Nat},(toG v q ms t).length=v
 | 0=>pB
 | t+1=>(mN ..).trans ig
def toF (v q:Nat) (ms:List Int) (m:Nat):List Int:=toG v q ms ms.length++(List.range m).map (λj:Nat=>((q+ms.length+j:Nat):Int))
theorem tR {v q m:Nat} {ms:List Int}:(toF v q ms m).length=v+m:=by simp[toF,ig]
theorem xZ {v q m j:Nat} {ms:List Int} (h:j<m):at' (toF v q ms m) ((v+j:Nat):Int)=((q+ms.length+j:Nat):Int):=by
 unfold toF at'
 rw[Int.toNat_natCast,List.getD_eq_getElem?_getD,List.getElem?_append_right (by rw[ig];omega),ig,show v+j-v=j by omega]
 simp[h]
def dE (p:List GRat) (gs:List GCauseGroup) (i:Int):GNode:=⟨3,0,i :: stk p gs gs.length i⟩
def nf (l:List Int) (nd:GNode):GNode:=⟨nd.Kind,nd.K,nd.Args.map (λa=>at' l a)⟩
def ug (f:GFormula) (p:List GRat) (gs:List GCauseGroup):List Int:=toF p.length (qG p gs gs.length).length (cd gs gs.length) f.Nodes.length
def xy (f:GFormula) (p:List GRat) (gs:List GCauseGroup):GFormula:=
 ⟨((qG p gs gs.length).length:Int),(cd gs gs.length).map (dE p gs)++f.Nodes.map (nf (ug f p gs)),at' (ug f p gs) f.Top⟩
def iV (f:GFormula) (p:List GRat) (gs:List GCauseGroup):Prop:=24<(qG p gs gs.length).length\/128<(cd gs gs.length).length+f.Nodes.length
instance {f:GFormula} {p:List GRat} {gs:List GCauseGroup}:Decidable (iV f p gs):=by unfold iV;infer_instance
def l6 (f:GFormula) (p:List GRat) (gs:List GCauseGroup):GFormula×List GRat×Int:=
 if mV f p gs≠0 then (⟨0,[],0⟩,[],mV f p gs) else if iV f p gs then (⟨0,[],0⟩,[],4) else (xy f p gs,qG p gs gs.length,0)
theorem mem_range {gs:List GCauseGroup} {f:GFormula} {p:List GRat} (ha:Acc f p gs):∀k,k<=gs.length->∀i∈cd gs k,0<=i/\i<p.length
 | 0,_=>λi hi=>by simp[cd] at hi
 | k+1,h=>λi hi=>by
  rw[eM om] at hi
  rcases List.mem_append.1 hi with h1 | h1
  ·exact mem_range ha k om i h1
  ·obtain⟨a,ha2,rfl⟩:=kG.1 h1
   have:=(ha.grp k om).mem a ha2
   exact⟨this.1,this.2.1⟩
end Go.Gg
namespace Go.Gg
theorem bO {n:Nat}:¬((n:Int)<(n:Int)):=om
theorem oz {f:GFormula} {p:List GRat} {gs:List GCauseGroup} {Q:GFormula->List GRat->Option Int->Prop} (ht:rng f.Top) (hp:Shs p) (hs:rz gs)
  (h:Q (l6 f p gs).1 (l6 f p gs).2.1 (nB (l6 f p gs).2.2)):ib f p gs Q:=by
 unfold l6 at h
 refine pG ht hp hs (rq (λe=>?_) (λe=>?_))
 ·rw[if_pos e] at h;exact h
 have ha:=Acc.of e
 rw[if_neg (λhh=>hh e)] at h
 have v0:=ha.fg.v0
 have v24:=ha.fg.v24
 have n128:=ha.fg.n128
 have pl:=ha.len
 have g30:=hs.1
 have p60:=hp.1
 refine d6 (n:=p.length) (λi=>((i:Int),p.take i)) (λy=>y.1) 0 (λi=>by simp) (by simp) (λi next hi hn=>?_) (λnext=>?_)
 ·have lr:=uq hp _ (gJ hi)
  refine condT (λ_=>⟨⟨by omega,by omega⟩,iW lr.1 lr.2 ⟨?_,by unfold rng;omega,?_⟩⟩) (λhc=>absurd (show(i:Int)<(p.length:Int) by omega) hc)
  ·rw[List.length_append,List.length_take];simp only[List.length_cons,List.length_nil];omega
  ·rw[dG hi] at hn;exact hn
 refine condT (λhc=>absurd hc bO) (λ_=>?_)
 rw[List.take_length]
 refine iq (n:=gs.length) (λk y=>∃T,y=((k:Int),qG p gs k,T,cd gs k)/\∀i,co T i=stk p gs k i) (λy=>y.1) 0 (λk y hy=>by obtain⟨T,rfl,_⟩:=hy;simp) ⟨[],rfl,λi=>gz (λhh=>absurd hh (Nat.not_lt_zero _))⟩ ?_ ?_
 ·rintro k _ next hk ⟨T,rfl,hT⟩ hn
  have hg:=ha.grp k hk
  have hsg:=hs.2 k hk
  have fo:=nA ha hp hk
  have ol:=t4 hsg hg fo.1 fo.2
  have ql:=qt ha k om
  have m16:=iT hg
  have m0:=hg.mem 0 (by have:=hg.two;omega)
  have ml:=gq hs k om
  have sl:=λi=>mh ha i k om
  have hQ:qG p gs (k+1)=gh (qG p gs k++j_ (at' gs (k:Int)) p) (at' gs (k:Int)).Members (nm (at' gs (k:Int)) (fm (at' gs (k:Int)) p)):=rfl
  have hS:∀i,stk p gs (k+1) i=stk p gs k i++i4 (at' gs (k:Int)) (qG p gs k).length (bb (at' gs (k:Int))).length i:=λi=>rfl
  have hM:=eM hk
  refine condT (λ_=>⟨⟨by omega,by omega⟩,⟨by omega,by have:=hg.two;omega⟩,⟨m0.1,m0.2.1⟩,_,_,_,oy hsg hg fo.1 fo.2 ⟨rfl,rfl,rfl⟩,?_⟩) (λhc=>absurd (show(k:Int)<(gs.length:Int) by omega) hc)
  refine bS (λhh=>by cases hh) (λ_=>?_)
  have fe:at' p (at' (at' gs (k:Int)).Members 0)=fm (at' gs (k:Int)) p:=rfl
  rw[fe]
  generalize at' gs (k:Int)=g at *
  have hLl:∀L,(bb g).map (λs=>(⟨jJ g (fm g p) s,fy g.Members s⟩:Gcause))=L->L.length=(bb g).length/\∀j:Nat,j<(bb g).length->at' L (j:Int)=⟨jJ g (fm g p) (at' (bb g) (j:Int)),fy g.Members (at' (bb g) (j:Int))⟩:=by
   rintro _ rfl
   exact⟨List.length_map ..,λj hj=>oG hj⟩
  generalize hL:(bb g).map (λs=>(⟨jJ g (fm g p) s,fy g.Members s⟩:Gcause))=L
  obtain⟨l1,l2⟩:=hLl L hL
  clear hLl hL
  have nl:(j_ g p).length=(bb g).length:=List.length_map ..
  refine iq (n:=(bb g).length) (λj y=>∃T2,y=((j:Int),qG p gs k++(j_ g p).take j,T2)/\∀i,co T2 i=stk p gs k i++i4 g (qG p gs k).length j i) (λy=>y.1) 0 (λj y hy=>by obtain⟨T2,rfl,_⟩:=hy;simp) ⟨T,by simp,λi=>by rw[hT];simp[i4]⟩ ?_ ?_
  ·rintro j _ next3 hj ⟨T2,rfl,hT2⟩ hn3
   refine condT (λhc=>⟨⟨by omega,hc⟩,?_⟩) (λhc=>absurd (show(j:Int)<(L.length:Int) by omega) hc)
   rw[l2 j hj]
   have hq2:(qG p gs k++(j_ g p).take j).length=(qG p gs k).length+j:=by rw[List.length_append,List.length_take,nl];omega
   have hms:at' (bb g) (j:Int)∈bb g:=gJ hj
   have hcp:=ol.2 _ hms
   have hsb:∀ {t:Nat},t<(fy g.Members (at' (bb g) (j:Int))).length->at' (fy g.Members (at' (bb g) (j:Int))) (t:Int)∉(fy g.Members (at' (bb g) (j:Int))).take t:=λhtt=>wX hg htt
   have hsl:(fy g.Members (at' (bb g) (j:Int))).length<=60:=by rw[vI];exact Nat.le_trans mU hsg.1
   have hss:∀i,i4 g (qG p gs k).length (j+1) i=i4 g (qG p gs k).length j i++if i∈fy g.Members (at' (bb g) (j:Int)) then [(((qG p gs k).length+j:Nat):Int)] else []:=λi=>uw
   have hnp:(j_ g p).take (j+1)=(j_ g p).take j++[jJ g (fm g p) (at' (bb g) (j:Int))]:=by
    rw[dG om]
    unfold j_
    rw[oG hj]
   have stl:=λi=>rS (g:=g) (q:=(qG p gs k).length) (j:=j) (i:=i)
   dsimp only
   generalize at' (bb g) (j:Int)=s at *
   generalize hB:fy g.Members s=B at *
   refine iq (n:=B.length) (λt y=>∃T3,y=((t:Int),T3)/\∀i,co T3 i=stk p gs k i++i4 g (qG p gs k).length j i++(if i∈B.take t then [(((qG p gs k).length+j:Nat):Int)] else [])) (λy=>y.1) 0 (λt y hy=>by obtain⟨T3,rfl,_⟩:=hy;simp) ⟨T2,rfl,λi=>by rw[hT2];simp⟩ ?_ ?_
   ·rintro t _ next4 htt ⟨T3,rfl,hT3⟩ hn4
    have hm:co T3 (at' B (t:Int))=stk p gs k (at' B (t:Int))++i4 g (qG p gs k).length j (at' B (t:Int)):=by
     rw[hT3,if_neg (hsb htt),List.append_nil]
    have s1:=sl (at' B (t:Int))
    have s2:=stl (at' B (t:Int))
    refine condT (λhc=>⟨⟨by omega,hc⟩,?_,by unfold rng;omega,hn4 _ ⟨_,rfl,λi=>?_⟩⟩) (λhc=>absurd (show(t:Int)<(B.length:Int) by omega) hc)
    ·rw[hm,List.length_append,List.length_append];simp only[List.length_cons,List.length_nil];omega
    ·by_cases hi:i=at' B (t:Int)
     ·rw[hi,qM,hm,hq2,dG htt,if_pos (List.mem_append.2 (Or.inr (List.mem_singleton.2 rfl)))]
     ·rw[wJ hi,hT3,dG htt]
      congr 1
      by_cases h5:i∈B.take t
      ·rw[if_pos h5,if_pos (List.mem_append.2 (Or.inl h5))]
      ·rw[if_neg h5,if_neg (λhh=>(List.mem_append.1 hh).elim h5 (λh6=>hi (List.mem_singleton.1 h6)))]
   ·rintro _ next4 ⟨T3,rfl,hT3⟩
    rw[List.take_length] at hT3
    refine condT (λhc=>absurd hc bO) (λ_=>iW hcp.1 hcp.2 ⟨?_,by unfold rng;omega,hn3 _ ⟨T3,?_,λi=>?_⟩⟩)
    ·rw[List.length_append,hq2];simp only[List.length_cons,List.length_nil];omega
    ·rw[hnp,<-List.append_assoc];rfl
    ·rw[hT3,hss,List.append_assoc]
  ·rintro _ next3 ⟨T2,rfl,hT2⟩
   rw[show(j_ g p).take (bb g).length=j_ g p by rw[<-nl,List.take_length]]
   refine condT (λhc=>absurd (show((bb g).length:Int)<(L.length:Int) from hc) om) (λ_=>?_)
   have g60:=hsg.1
   have ql2:(qG p gs k++j_ g p).length=(qG p gs k).length+(bb g).length:=by rw[List.length_append,nl]
   refine d6 (n:=g.Members.length) (λt=>((t:Int),gh (qG p gs k++j_ g p) (g.Members.take t) (nm g (fm g p)),cd gs k++g.Members.take t)) (λy=>y.1) 0 (λt=>by simp) (by simp[gh]) (λt next5 htt hn5=>?_) (λnext5=>?_)
   ·have hm:=hg.mem t htt
    refine condT (λhc=>⟨⟨by omega,hc⟩,iW ol.1.1 ol.1.2 ⟨⟨hm.1,?_⟩,?_,by unfold rng;omega,?_⟩⟩) (λhc=>absurd (show(t:Int)<(g.Members.length:Int) by omega) hc)
    ·rw[jP,ql2];omega
    ·rw[List.length_append,List.length_append,List.length_take];simp only[List.length_cons,List.length_nil];omega
    ·rw[nM htt,dG htt,<-List.append_assoc] at hn5
     exact hn5
   ·refine condT (λhc=>absurd hc bO) (λ_=>⟨by unfold rng;omega,hn _ ⟨T2,?_,λi=>?_⟩⟩)
    ·rw[List.take_length,hQ,hM];rfl
    ·rw[hT2,hS]
 ·rintro _ next ⟨T,rfl,hT⟩
  refine condT (λhc=>absurd hc bO) (λ_=>?_)
  have ql:=qt ha gs.length (Nat.le_refl _)
  have ml:=gq hs gs.length (Nat.le_refl _)
  have sl:=λi=>mh ha i gs.length (Nat.le_refl _)
  have mr:=mem_range ha gs.length (Nat.le_refl _)
  refine⟨λy=>y=(decide (iV f p gs),T),condT (λa=>?_) (λa=>⟨by unfold rng;omega,?_⟩),?_⟩
  ·show(true,T)=_
   rw[decide_eq_true (show iV f p gs from Or.inl om)]
  ·show(decide _,T)=_
   rw[decide_eq_decide.2 (show(128<((cd gs gs.length).length:Int)+(f.Nodes.length:Int))↔iV f p gs from⟨λb=>Or.inr om,λb=>b.elim (λb=>absurd om a) (λb=>om)⟩)]
  rintro _ rfl
  refine condT (λa=>?_) (λa=>?_)
  ·rw[if_pos a] at h;exact h
  rw[if_neg a] at h
  unfold iV at a
  refine⟨⟨v0,Int.le_refl _,by omega,by omega⟩,?_⟩
  rw[qD,show f.Vars.toNat=p.length by omega]
  refine d6 (n:=p.length) (λi=>((i:Int),ou p.length i)) (λy=>y.1) 0 (λi=>by simp) rfl (λi next6 hi hn6=>?_) (λnext6=>?_)
  ·refine condT (λhc=>⟨⟨by omega,by rw[pB];exact hc⟩,by unfold rng;omega,?_⟩) (λhc=>absurd (show(i:Int)<(p.length:Int) by omega) hc)
   rw[sO];exact hn6
  refine condT (λhc=>absurd hc bO) (λ_=>?_)
  unfold xy ug at h
  generalize hMS:cd gs gs.length=MS at *
  generalize hQQ:qG p gs gs.length=QQ at *
  refine d6 (n:=MS.length) (λt=>((t:Int),toG p.length QQ.length MS t,(MS.take t).map (dE p gs))) (λy=>y.1) 0 (λt=>by simp) rfl (λt next7 htt hn7=>?_) (λnext7=>?_)
  ·have hm:=mr _ (gJ htt)
   have s1:=sl (at' MS (t:Int))
   have lt:((MS.take t).map (dE p gs)).length=t:=by rw[List.length_map,List.length_take];omega
   have e1:toG p.length QQ.length MS (t+1)=cg (toG p.length QQ.length MS t) (at' MS (t:Int)) ((QQ.length:Int)+(((MS.take t).map (dE p gs)).length:Int)):=by rw[lt];rfl
   rw[dG htt,List.map_append,e1] at hn7
   refine condT (λhc=>⟨⟨by omega,hc⟩,by rw[lt];unfold rng;omega,⟨hm.1,by rw[ig];exact hm.2⟩,condT (λc=>?_) (λc=>?_)⟩) (λhc=>absurd (show(t:Int)<(MS.length:Int) by omega) hc)
   ·rw[hT]
    refine⟨?_,?_,by unfold rng;omega,hn7⟩
    ·rw[List.length_append];simp only[List.length_cons,List.length_nil];omega
    ·rw[List.length_append,lt];simp only[List.length_cons,List.length_nil];omega
   ·refine⟨by simp,?_,by unfold rng;omega,?_⟩
    ·rw[List.length_append,lt];simp only[List.length_cons,List.length_nil];omega
    ·have e2:=hT (at' MS (t:Int))
     rw[gz c] at e2
     have e3:dE p gs (at' MS (t:Int))=⟨3,0,[at' MS (t:Int)]++[]⟩:=by unfold dE;rw[<-e2];rfl
     rw[List.map_cons,List.map_nil,e3] at hn7
     exact hn7
  refine condT (λhc=>absurd hc bO) (λ_=>?_)
  rw[List.take_length]
  have tl:(toF p.length QQ.length MS f.Nodes.length).length=p.length+f.Nodes.length:=tR
  have t0:(toF p.length QQ.length MS f.Nodes.length).take (p.length+0)=toG p.length QQ.length MS MS.length:=by
   unfold toF
   rw[Nat.add_zero,List.take_append_of_le_length (Nat.le_of_eq ig.symm),List.take_of_length_le (Nat.le_of_eq ig)]
  have ta:∀j,j<f.Nodes.length->at' (toF p.length QQ.length MS f.Nodes.length) ((p.length+j:Nat):Int)=((QQ.length+MS.length+j:Nat):Int):=λj hj=>xZ hj
  generalize toF p.length QQ.length MS f.Nodes.length=F at *
  refine d6 (n:=f.Nodes.length) (λj=>((j:Int),F.take (p.length+j),MS.map (dE p gs)++(f.Nodes.take j).map (nf F))) (λy=>y.1) 0 (λj=>by simp) (by rw[t0];simp) (λj next8 hj hn8=>?_) (λnext8=>?_)
  ·have ng:=po (ha.fg.node j hj)
   have hl:(F.take (p.length+j)).length=p.length+j:=by rw[List.length_take];omega
   have nl:(MS.map (dE p gs)++(f.Nodes.take j).map (nf F)).length=MS.length+j:=by rw[List.length_append,List.length_map,List.length_map,List.length_take];omega
   have hin:∀i:Nat,i<(at' f.Nodes (j:Int)).Args.length->at' (F.take (p.length+j)) (at' (at' f.Nodes (j:Int)).Args (i:Int))=at' F (at' (at' f.Nodes (j:Int)).Args (i:Int)):=λi hi=>by
    have:=ng.arg i hi
    obtain⟨n,hn⟩:=Int.eq_ofNat_of_zero_le this.1
    rw[hn]
    exact mY om
   have a16:=ng.len
   refine condT (λhc=>⟨⟨by omega,hc⟩,?_⟩) (λhc=>absurd (show(j:Int)<(f.Nodes.length:Int) by omega) hc)
   refine d6 (n:=(at' f.Nodes (j:Int)).Args.length) (λi=>((i:Int),((at' f.Nodes (j:Int)).Args.take i).map (λa=>at' F a))) (λy=>y.1) 0 (λi=>by simp) (by simp) (λi next9 hi hn9=>?_) (λnext9=>?_)
   ·have ar:=ng.arg i hi
    rw[dG hi,List.map_append] at hn9
    refine condT (λhc=>⟨⟨by omega,hc⟩,⟨ar.1,by rw[hl];omega⟩,?_,by unfold rng;omega,?_⟩) (λhc=>absurd (show(i:Int)<((at' f.Nodes (j:Int)).Args.length:Int) by omega) hc)
    ·rw[List.length_append,List.length_map,List.length_take];simp only[List.length_cons,List.length_nil];omega
    ·rw[hin i hi];exact hn9
   refine condT (λhc=>absurd hc bO) (λ_=>?_)
   rw[List.take_length]
   have e5:F.take (p.length+(j+1))=F.take (p.length+j)++[((QQ.length:Int)+((MS.length+j:Nat):Int))]:=by
    rw[<-Nat.add_assoc,dG om,ta j hj]
    congr 2
    omega
   rw[e5,dG hj,List.map_append,<-List.append_assoc,List.map_cons,List.map_nil] at hn8
   rw[nl]
   refine⟨by unfold rng;omega,?_,?_,by unfold rng;omega,hn8⟩
   ·rw[List.length_append,hl];simp only[List.length_cons,List.length_nil];omega
   ·rw[List.length_append,nl];simp only[List.length_cons,List.length_nil];omega
  refine condT (λhc=>absurd hc bO) (λ_=>?_)
  rw[List.take_length,List.take_of_length_le om]
  refine⟨⟨ha.fg.top0,by have:=ha.fg.top;omega⟩,h⟩
end Go.Gg
namespace Go.Gg
theorem rR {g:GCauseGroup} {q j:Nat} {i:Int} (h:i∉g.Members):i4 g q j i=[]:=by
 unfold i4
 rw[List.filter_eq_nil_iff.2 (λn _=>by simpa using λhh=>h (ya hh))]
 rfl
theorem tT {p:List GRat} {gs:List GCauseGroup} {i:Int}:∀k,k<=gs.length->i∉cd gs k->stk p gs k i=[]
 | 0,_,_=>rfl
 | k+1,h,hi=>by
  rw[eM om] at hi
  show stk p gs k i++i4 _ _ _ _=[]
  rw[tT k om (λhh=>hi (List.mem_append.2 (Or.inl hh))),rR (λhh=>hi (List.mem_append.2 (Or.inr hh)))]
  rfl
theorem uM {gs:List GCauseGroup} {i:Int} {k j:Nat} (h:k<j) (hj:j<=gs.length) (hi:i∈(at' gs (k:Int)).Members):i∈cd gs j:=by
 unfold cd
 rw[List.mem_flatMap]
 refine⟨_,?_,hi⟩
 rw[<-mY (l:=gs) h]
 exact gJ (by rw[List.length_take];omega)
theorem rQ {f:GFormula} {p:List GRat} {gs:List GCauseGroup} (ha:Acc f p gs) {k a:Nat} (hk:k<gs.length) (hm:a<(at' gs (k:Int)).Members.length):∀d,k+1+d<=gs.length->
  stk p gs (k+1+d) (at' (at' gs (k:Int)).Members (a:Int))=i4 (at' gs (k:Int)) (qG p gs k).length (bb (at' gs (k:Int))).length (at' (at' gs (k:Int)).Members (a:Int))
 | 0,_=>by
  show stk p gs k _++i4 _ _ _ _=_
  rw[tT k om (λhh=>((ha.grp k hk).mem a hm).2.2 (List.mem_append.2 (Or.inl hh)))]
  rfl
 | d+1,h=>by
  have hz:i4 (at' gs ((k+1+d:Nat):Int)) (qG p gs (k+1+d)).length (bb (at' gs ((k+1+d:Nat):Int))).length (at' (at' gs (k:Int)).Members (a:Int))=[]:=by
   refine rR (λhh=>?_)
   obtain⟨b,hb,e⟩:=kG.1 hh
   have:=((ha.grp (k+1+d) om).mem b hb).2.2
   rw[<-e] at this
   exact this (List.mem_append.2 (Or.inl (uM om om (gJ hm))))
  show stk p gs (k+1+d) (at' (at' gs (k:Int)).Members (a:Int))++i4 (at' gs ((k+1+d:Nat):Int)) (qG p gs (k+1+d)).length (bb (at' gs ((k+1+d:Nat):Int))).length (at' (at' gs (k:Int)).Members (a:Int))=_
  rw[hz,List.append_nil]
  exact rQ ha hk hm d om
theorem w5 {f:GFormula} {p:List GRat} {gs:List GCauseGroup} (ha:Acc f p gs) {k a:Nat} (hk:k<gs.length) (hm:a<(at' gs (k:Int)).Members.length) :
  stk p gs gs.length (at' (at' gs (k:Int)).Members (a:Int))=((List.range (bb (at' gs (k:Int))).length).filter (λn:Nat=>inS (at' (bb (at' gs (k:Int))) (n:Int)) a)).map (λn:Nat=>(((qG p gs k).length+n:Nat):Int)):=by
 have e:gs.length=k+1+(gs.length-(k+1)):=om
 have:=rQ ha hk hm (gs.length-(k+1)) om
 rw[<-e] at this
 rw[this]
 unfold i4
 congr 2
 funext n
 rw[Bool.eq_iff_iff,decide_eq_true_iff]
 exact wY (ha.grp k hk) hm
theorem uN {gs:List GCauseGroup} {k:Nat} (hk:k<gs.length):∃R,cd gs gs.length=cd gs k++(at' gs (k:Int)).Members++R:=by
 refine⟨(gs.drop (k+1)).flatMap (·.Members),?_⟩
 rw[<-eM hk]
 unfold cd
 rw[<-List.flatMap_append,List.take_append_drop,List.take_length]
theorem xD {A M R:List Int} {a:Nat} (h:a<M.length):at' (A++M++R) ((A.length+a:Nat):Int)=at' M (a:Int):=by
 unfold at'
 rw[Int.toNat_natCast,Int.toNat_natCast,List.getD_eq_getElem?_getD,List.getD_eq_getElem?_getD,List.append_assoc,List.getElem?_append_right om,List.getElem?_append_left om,Nat.add_sub_cancel_left]
theorem qK {α:Type} [Inhabited α] {F:Nat->α} {n i:Nat} (h:i<n):at' ((List.range n).map F) (i:Int)=F i:=by
 rw[oG (by simpa using h)]
 congr 1
 simp[at',List.getD_eq_getElem?_getD,h]
theorem lW {α:Type} {F:Nat->α} {n:Nat}:(List.range (n+1)).map F=(List.range n).map F++[F n]:=by
 rw[List.range_succ,List.map_append]
 rfl
theorem oW {f:GFormula} {p:List GRat} {gs:List GCauseGroup} {Q:GFormula->List GRat->Int->Prop} (ht:rng f.Top) (hp:Shs p) (hs:rz gs)
  (h:Q (l6 f p gs).1 (l6 f p gs).2.1 (l6 f p gs).2.2):iJ f p gs Q:=by
 unfold l6 at h
 refine p7 ht hp hs (dz (λe=>?_) (λe=>?_))
 ·rw[if_pos e] at h;exact h
 have ha:=Acc.of e
 rw[if_neg (λhh=>hh e)] at h
 have v0:=ha.fg.v0
 have v24:=ha.fg.v24
 have n128:=ha.fg.n128
 have pl:=ha.len
 have g30:=hs.1
 have p60:=hp.1
 refine⟨by rw[List.nil_append];omega,?_⟩
 rw[List.nil_append]
 refine d6 (n:=gs.length) (λk=>((k:Int),qG p gs k,(List.range k).map (λj:Nat=>((qG p gs j).length:Int)),(List.range k).map (λj:Nat=>(bb (at' gs (j:Int))).map (λs:Nat=>(s:Int))))) (λy=>y.1) 0 (λk=>by simp) rfl (λk next hk hn=>?_) (λnext=>?_)
 ·have hg:=ha.grp k hk
  have hsg:=hs.2 k hk
  have fo:=nA ha hp hk
  have ql:=qt ha k om
  have m16:=iT hg
  have m0:=hg.mem 0 (by have:=hg.two;omega)
  have hQ:qG p gs (k+1)=gh (qG p gs k++j_ (at' gs (k:Int)) p) (at' gs (k:Int)).Members (nm (at' gs (k:Int)) (fm (at' gs (k:Int)) p)):=rfl
  rw[lW,lW,hQ] at hn
  refine condT (λ_=>⟨⟨by omega,by omega⟩,⟨by omega,by have:=hg.two;omega⟩,⟨m0.1,m0.2.1⟩,_,_,_,oV hsg hg fo.1 fo.2 ⟨rfl,rfl,rfl⟩,?_⟩) (λhc=>absurd (show(k:Int)<(gs.length:Int) by omega) hc)
  have fe:at' p (at' (at' gs (k:Int)).Members 0)=fm (at' gs (k:Int)) p:=rfl
  rw[fe]
  have fn:(bb (at' gs (k:Int))).map (jJ (at' gs (k:Int)) (fm (at' gs (k:Int)) p))=j_ (at' gs (k:Int)) p:=rfl
  rw[fn]
  generalize at' gs (k:Int)=g at *
  have nl:(j_ g p).length=(bb g).length:=List.length_map ..
  have g60:=hsg.1
  have ql2:(qG p gs k++j_ g p).length=(qG p gs k).length+(bb g).length:=by rw[List.length_append,nl]
  refine⟨?_,by rw[ql2];omega,?_,?_⟩
  ·rw[List.length_append,List.length_map,List.length_range];simp only[List.length_cons,List.length_nil];omega
  ·rw[List.length_append,List.length_map,List.length_range];simp only[List.length_cons,List.length_nil];omega
  refine d6 (n:=g.Members.length) (λt=>((t:Int),gh (qG p gs k++j_ g p) (g.Members.take t) (nm g (fm g p)))) (λy=>y.1) 0 (λt=>by simp) (by simp[gh]) (λt next5 htt hn5=>?_) (λnext5=>?_)
  ·have hm:=hg.mem t htt
   rw[nM htt] at hn5
   exact condT (λhc=>⟨⟨by omega,hc⟩,⟨hm.1,by rw[jP,ql2];omega⟩,by unfold rng;omega,hn5⟩) (λhc=>absurd (show(t:Int)<(g.Members.length:Int) by omega) hc)
  ·rw[List.take_length]
   exact condT (λhc=>absurd hc bO) (λ_=>⟨by unfold rng;omega,hn⟩)
 refine condT (λhc=>absurd hc bO) (λ_=>?_)
 have ql:=qt ha gs.length (Nat.le_refl _)
 have ml:=gq hs gs.length (Nat.le_refl _)
 have sl:=λi=>mh ha i gs.length (Nat.le_refl _)
 refine⟨⟨v0,Int.le_refl _,by omega,by omega⟩,?_⟩
 rw[qD,show f.Vars.toNat=p.length by omega]
 refine d6 (n:=p.length) (λi=>((i:Int),ou p.length i)) (λy=>y.1) 0 (λi=>by simp) rfl (λi next6 hi hn6=>?_) (λnext6=>?_)
 ·refine condT (λhc=>⟨⟨by omega,by rw[pB];exact hc⟩,by unfold rng;omega,?_⟩) (λhc=>absurd (show(i:Int)<(p.length:Int) by omega) hc)
  rw[sO];exact hn6
 refine condT (λhc=>absurd hc bO) (λ_=>?_)
 refine d6 (n:=gs.length) (λk=>((k:Int),toG p.length (qG p gs gs.length).length (cd gs gs.length) (cd gs k).length,(cd gs k).map (dE p gs))) (λy=>y.1) 0 (λk=>by simp) rfl (λk next4 hk hn4=>?_) (λnext4=>?_)
 ·have hg:=ha.grp k hk
  have hsg:=hs.2 k hk
  have m16:=iT hg
  have qk:=qt ha k om
  have mk:=gq hs k om
  have mr:=mem_range ha (k+1) om
  have hown:=λa (hm:a<(at' gs (k:Int)).Members.length)=>w5 ha hk hm
  obtain⟨R,hR⟩:=uN hk
  rw[eM hk] at hn4 mr
  have s1:at' ((List.range gs.length).map (λj:Nat=>(bb (at' gs (j:Int))).map (λs:Nat=>(s:Int)))) (k:Int)=(bb (at' gs (k:Int))).map (λs:Nat=>(s:Int)):=qK hk
  have s2:at' ((List.range gs.length).map (λj:Nat=>((qG p gs j).length:Int))) (k:Int)=((qG p gs k).length:Int):=qK hk
  refine condT (λ_=>⟨⟨by omega,by omega⟩,?_⟩) (λhc=>absurd (show(k:Int)<(gs.length:Int) by omega) hc)
  rw[s1,s2]
  generalize at' gs (k:Int)=g at *
  have g60:=hsg.1
  refine d6 (n:=g.Members.length) (λa=>((a:Int),toG p.length (qG p gs gs.length).length (cd gs gs.length) ((cd gs k).length+a),(cd gs k++g.Members.take a).map (dE p gs))) (λy=>y.1) 0 (λa=>by simp) (by simp) (λa next5 hm hn5=>?_) (λnext5=>?_)
  ·have hst:=hown a hm
   have hmm:=mr _ (List.mem_append.2 (Or.inr (gJ hm)))
   have lt:((cd gs k++g.Members.take a).map (dE p gs)).length=(cd gs k).length+a:=by rw[List.length_map,List.length_append,List.length_take];omega
   have e1:toG p.length (qG p gs gs.length).length (cd gs gs.length) ((cd gs k).length+(a+1))=cg (toG p.length (qG p gs gs.length).length (cd gs gs.length) ((cd gs k).length+a)) (at' g.Members (a:Int)) (((qG p gs gs.length).length:Int)+(((cd gs k++g.Members.take a).map (dE p gs)).length:Int)):=by
    show cg _ (at' (cd gs gs.length) (((cd gs k).length+a:Nat):Int)) _=_
    rw[hR,xD hm,lt]
    rfl
   have e2:(cd gs k++g.Members.take (a+1)).map (dE p gs)=(cd gs k++g.Members.take a).map (dE p gs)++[dE p gs (at' g.Members (a:Int))]:=by
    rw[dG hm,<-List.append_assoc,List.map_append]
    rfl
   have on:dE p gs (at' g.Members (a:Int))=⟨3,0,at' g.Members (a:Int) :: ((List.range (bb g).length).filter (λn:Nat=>inS (at' (bb g) (n:Int)) a)).map (λn:Nat=>(((qG p gs k).length+n:Nat):Int))⟩:=by unfold dE;rw[hst]
   rw[e1,e2,on] at hn5
   refine condT (λhc=>⟨⟨by omega,hc⟩,⟨by omega,by rw[List.length_map,List.length_range];omega⟩,?_⟩) (λhc=>absurd (show(a:Int)<(g.Members.length:Int) by omega) hc)
   refine d6 (n:=(bb g).length) (λn=>((n:Int),at' g.Members (a:Int) :: ((List.range n).filter (λn:Nat=>inS (at' (bb g) (n:Int)) a)).map (λn:Nat=>(((qG p gs k).length+n:Nat):Int)))) (λy=>y.1) 0 (λn=>by simp) rfl (λn next6 hn6 hnx=>?_) (λnext6=>?_)
   ·have sm:at' ((bb g).map (λs:Nat=>(s:Int))) (n:Int)=((at' (bb g) (n:Int):Nat):Int):=oG hn6
    have big:at' (bb g) (n:Int)<4294967296:=by
     have hmem:at' (bb g) (n:Int)∈bb g:=gJ hn6
     have g24:=hg.most
     have mo:iS g<=24:=by unfold iS;split<;>omega
     have pw:2^g.Members.length<=2^24:=Nat.pow_le_pow_right om om
     generalize at' (bb g) (n:Int)=s at hmem
     unfold bb at hmem
     split at hmem
     ·have:=List.mem_singleton.1 hmem;omega
     ·have:=List.mem_range.1 (List.mem_filter.1 hmem).1;omega
    have ll:=List.length_filter_le (λn:Nat=>inS (at' (bb g) (n:Int)) a) (List.range n)
    rw[List.length_range] at ll
    rw[dY] at hnx
    refine condT (λhc=>⟨⟨by omega,hc⟩,⟨by omega,by omega⟩,?_⟩) (λhc=>absurd (show(n:Int)<(((bb g).map (λs:Nat=>(s:Int))).length:Int) by rw[List.length_map];omega) hc)
    rw[sm,wH big]
    refine bS (λhb=>?_) (λhb=>?_)
    ·rw[hb,if_pos rfl,List.map_append] at hnx
     refine⟨⟨by omega,by rw[List.length_map,List.length_range];omega⟩,by unfold rng;omega,?_,by unfold rng;omega,hnx⟩
     rw[List.length_append,List.length_cons,List.length_map];simp only[List.length_cons,List.length_nil];omega
    ·rw[hb,if_neg (by simp),List.append_nil] at hnx
     exact⟨by unfold rng;omega,hnx⟩
   ·refine condT (λhc=>absurd (show((bb g).length:Int)<(((bb g).map (λs:Nat=>(s:Int))).length:Int) from hc) (by rw[List.length_map];omega)) (λ_=>⟨?_,⟨hmm.1,by rw[ig];exact hmm.2⟩,?_,by unfold rng;omega,hn5⟩)
    ·rw[lt];unfold rng;omega
    ·rw[List.length_append,lt];simp only[List.length_cons,List.length_nil];omega
  ·rw[List.take_length]
   rw[List.length_append] at hn4
   exact condT (λhc=>absurd hc bO) (λ_=>⟨by unfold rng;omega,hn4⟩)
 refine condT (λhc=>absurd hc bO) (λ_=>?_)
 have hbig:iV f p gs↔(24<(qG p gs gs.length).length\/128<(cd gs gs.length).length+f.Nodes.length):=Iff.rfl
 unfold xy ug at h
 generalize cd gs gs.length=MS at *
 generalize qG p gs gs.length=QQ at *
 have nl0:(MS.map (dE p gs)).length=MS.length:=List.length_map ..
 rw[nl0]
 refine⟨by unfold rng;omega,?_⟩
 refine d6 (n:=f.Nodes.length) (λj=>((j:Int),toG p.length QQ.length MS MS.length++(List.range j).map (λj:Nat=>((QQ.length+MS.length+j:Nat):Int)))) (λy=>y.1) 0 (λj=>by simp) (by simp) (λj next7 hj hn7=>?_) (λnext7=>?_)
 ·rw[lW,<-List.append_assoc] at hn7
  refine condT (λhc=>⟨by unfold rng;omega,?_,by unfold rng;omega,hn7⟩) (λhc=>absurd (show(j:Int)<(f.Nodes.length:Int) by omega) hc)
  rw[List.length_append,List.length_append,ig,List.length_map,List.length_range];simp only[List.length_cons,List.length_nil];omega
 refine condT (λhc=>absurd hc bO) (λ_=>?_)
 have tl:(toF p.length QQ.length MS f.Nodes.length).length=p.length+f.Nodes.length:=tR
 have td:toG p.length QQ.length MS MS.length++(List.range f.Nodes.length).map (λj:Nat=>((QQ.length+MS.length+j:Nat):Int))=toF p.length QQ.length MS f.Nodes.length:=rfl
 rw[td]
 generalize toF p.length QQ.length MS f.Nodes.length=F at *
 refine d6 (n:=f.Nodes.length) (λj=>((j:Int),MS.map (dE p gs)++(f.Nodes.take j).map (nf F))) (λy=>y.1) 0 (λj=>by simp) (by simp) (λj next8 hj hn8=>?_) (λnext8=>?_)
 ·have ng:=po (ha.fg.node j hj)
  have nl:(MS.map (dE p gs)++(f.Nodes.take j).map (nf F)).length=MS.length+j:=by rw[List.length_append,List.length_map,List.length_map,List.length_take];omega
  have a16:=ng.len
  refine condT (λhc=>⟨⟨by omega,hc⟩,?_⟩) (λhc=>absurd (show(j:Int)<(f.Nodes.length:Int) by omega) hc)
  refine d6 (n:=(at' f.Nodes (j:Int)).Args.length) (λi=>((i:Int),((at' f.Nodes (j:Int)).Args.take i).map (λa=>at' F a))) (λy=>y.1) 0 (λi=>by simp) (by simp) (λi next9 hi hn9=>?_) (λnext9=>?_)
  ·have ar:=ng.arg i hi
   rw[dG hi,List.map_append] at hn9
   refine condT (λhc=>⟨⟨by omega,hc⟩,⟨ar.1,by omega⟩,?_,by unfold rng;omega,hn9⟩) (λhc=>absurd (show(i:Int)<((at' f.Nodes (j:Int)).Args.length:Int) by omega) hc)
   rw[List.length_append,List.length_map,List.length_take];simp only[List.length_cons,List.length_nil];omega
  refine condT (λhc=>absurd hc bO) (λ_=>?_)
  rw[List.take_length]
  rw[dG hj,List.map_append,<-List.append_assoc,List.map_cons,List.map_nil] at hn8
  refine⟨?_,by unfold rng;omega,hn8⟩
  rw[List.length_append,nl];simp only[List.length_cons,List.length_nil];omega
 refine condT (λhc=>absurd hc bO) (λ_=>?_)
 rw[List.take_length]
 have nl:(MS.map (dE p gs)++f.Nodes.map (nf F)).length=MS.length+f.Nodes.length:=by rw[List.length_append,List.length_map,List.length_map]
 refine⟨⟨ha.fg.top0,by have:=ha.fg.top;omega⟩,λy=>y=decide (iV f p gs),condT (λa=>?_) (λa=>?_),?_⟩
 ·rw[decide_eq_true (hbig.2 (Or.inl om))]
 ·rw[nl]
  exact decide_eq_decide.2 ⟨λb=>hbig.2 (Or.inr om),λb=>(hbig.1 b).elim (λb=>absurd om a) (λb=>om)⟩
 rintro _ rfl
 refine condT (λa=>?_) (λa=>?_)
 ·rw[if_pos a] at h;exact h
 ·rw[if_neg a] at h;exact h
end Go.Gg
namespace Go.Gg
theorem tB {a:List Int} {Q:Bool->Prop} (la:a.length<=9223372036854775807) (h:Q true):kO a a Q:=by
 refine dz (λhh=>absurd rfl hh) λ_=>i8 (n:=a.length) (λ_=>False) la (λi next hi _ hnx=>⟨⟨by omega,by omega⟩,⟨by omega,by omega⟩,dz (λhh=>absurd rfl hh) λ_=>hnx id⟩) (λ_=>h)
theorem tE {f:GFormula} {Q:Bool->Prop} (lf:f.Nodes.length<=9223372036854775807) (la:∀i:Nat,i<f.Nodes.length->(at' f.Nodes (i:Int)).Args.length<=9223372036854775807) (h:Q true):iY f f Q:=by
 refine dz (λhh=>absurd rfl hh) λ_=>dz (λhh=>absurd rfl hh) λ_=>dz (λhh=>absurd rfl hh) λ_=>i8 (n:=f.Nodes.length) (λ_=>False) lf (λi next hi _ hnx=>?_) (λ_=>h)
 have hb:(0:Int)<=(i:Int)/\(i:Int)<(f.Nodes.length:Int):=⟨by omega,by omega⟩
 exact⟨hb,hb,dz (λhh=>absurd rfl hh) λ_=>⟨hb,hb,dz (λhh=>absurd rfl hh) λ_=>⟨hb,hb,true,tB (la i hi) rfl,bS (λhh=>by cases hh) λ_=>hnx id⟩⟩⟩
theorem uP {f:GFormula} {Q:Bool->Prop} (h:∀b,Q b):jv f Q:=by
 refine condT (λ_=>h _) (λhc=>?_)
 exact i8 (λ_=>False) om (λi next hi hI hnx=>⟨⟨by omega,by omega⟩,condT (λ_=>h _) (λ_=>hnx (λhh=>hh))⟩) (λ_=>h _)
theorem qg {l:List GCauseGroup} {Q:Bool->Prop} (ll:l.length<=9223372036854775807) (wl:∀i:Nat,i<l.length->(at' l (i:Int)).Factors.length<=9223372036854775807/\WrL (at' l (i:Int)).Factors)
  (h:∀b,(b=true->rz l)->Q b):jt l Q:=by
 refine i8 (λi=>¬ShG (at' l (i:Int))) ll (λi next hi hI hnx=>⟨⟨by omega,by omega⟩,condT (λ_=>h _ λhh=>by cases hh) (λc=>?_)⟩) (λhall=>?_)
 ·refine lH (wl i hi).1 (wl i hi).2 λb hb=>bS (λ_=>h _ λhh=>by cases hh) (λhb2=>hnx (λhn=>hn ⟨by omega,hb (by simpa using hb2)⟩))
 ·exact h _ λe=>⟨by have:=of_decide_eq_true e;omega,λi hi=>Classical.not_not.1 (hall i hi)⟩
theorem xx {f:GFormula} {p:List GRat} {gs:List GCauseGroup} (hp:Shs p) (hs:rz gs):(l6 f p gs).1.Nodes.length<=1000/\(∀i:Nat,i<(l6 f p gs).1.Nodes.length->(at' (l6 f p gs).1.Nodes (i:Int)).Args.length<=1000)/\
  (l6 f p gs).2.1.length<=1000/\∀i:Nat,i<(l6 f p gs).2.1.length->wM (at' (l6 f p gs).2.1 (i:Int)):=by
 unfold l6
 by_cases e:mV f p gs=0
 ·rw[if_neg (λhh=>hh e)]
  by_cases b:iV f p gs
  ·rw[if_pos b];simp
  ·rw[if_neg b]
   unfold iV at b
   have ha:=Acc.of e
   have g30:=hs.1
   refine⟨?_,λi hi=>?_,by dsimp only;omega,λi hi=>vX ha hp hs gs.length (Nat.le_refl _) _ (gJ hi)⟩
   ·show(_++_:List GNode).length<=1000
    rw[List.length_append,List.length_map,List.length_map];omega
   ·have hm:=gJ hi
    generalize at' (xy f p gs,qG p gs gs.length,(0:Int)).1.Nodes (i:Int)=nd at hm ⊢
    rcases List.mem_append.1 hm with h1 | h1
    ·obtain⟨a,_,rfl⟩:=List.mem_map.1 h1
     have:=mh ha a gs.length (Nat.le_refl _)
     show(a :: stk p gs gs.length a).length<=1000
     rw[List.length_cons];omega
    ·obtain⟨x,hx,rfl⟩:=List.mem_map.1 h1
     obtain⟨j,hj,rfl⟩:=List.mem_iff_getElem.1 hx
     have:=(po (ha.fg.node j hj)).len
     have e1:at' f.Nodes (j:Int)=f.Nodes[j]:=by simp[at',List.getD_eq_getElem?_getD,hj]
     rw[e1] at this
     show(List.map _ _).length<=1000
     rw[List.length_map];omega
 ·rw[if_pos e];simp
end Go.Gg
