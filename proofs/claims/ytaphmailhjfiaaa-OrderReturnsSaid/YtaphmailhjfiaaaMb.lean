/- Lemmas that this seat's other texts need. Conditions: none. -/
import Derived.Test.YtaphmailhjfiaaaMa
import Derived.Test.YtaphmailhjfiaaaWa
namespace Go.Gg
theorem qx {α:Type} {P:List α->Prop} (h0:P []) (h1:∀l x,P l->P (l++[x])) (l:List α):P l:=by
 have h:∀m:List α,P m.reverse:=by
  intro m
  induction m with
  | nil=>exact h0
  | cons x m ih=>rw[List.reverse_cons];exact h1 _ _ ih
 have:=h l.reverse
 rwa[List.reverse_reverse] at this
end Go.Gg
namespace Go.Gg
def plE (o:List Int) (n:Int) (i:Nat):Int:=
 if at' o (i:Int)<0\/n<=at' o (i:Int) then 3 else if ∃k<i,at' o (k:Int)=at' o (i:Int) then 6 else 0
def gJ (o:List Int) (n:Int):Int:=if n<0\/24<n then 3 else if (o.length:Int)≠n then 11 else iz (plE o n) o.length
theorem dq {o:List Int} {n:Int} {Q:Option Int->Prop} (h:Q (jO (gJ o n))):dr o n Q:=by
 unfold gJ at h
 refine⟨λb=>b=decide (n<0\/24<n),condT (λh0=>?_) (λh0=>?_),λb hb=>?_⟩
 ·rw[decide_eq_true (.inl h0)]
 ·exact decide_eq_decide.2 om
 subst hb
 refine condT (λh0=>?_) (λh0=>gE (λh2=>?_) (λh2=>?_))
 ·rw[if_pos h0] at h;exact h
 ·rw[if_neg h0,if_pos h2] at h;exact h
 ·rw[if_neg h0,if_neg om] at h
  subst h2
  refine⟨⟨by omega,by omega,by omega⟩,?_⟩
  refine fI (n:=o.length) (λi y=>(y.1=(i:Int)/\∀j,j<i->plE o o.length j=0)/\y.2.length=o.length/\∀v:Nat,v<o.length->(at' y.2 (v:Int)=true↔∃k<i,at' o (k:Int)=(v:Int))) (λy=>y.1) 0
   (λi y hy=>by rw[hy.1.1];omega) ⟨⟨rfl,λj hj=>absurd hj om⟩,by simp[bG],λv hv=>?_⟩ ?_ ?_
  ·constructor
   ·intro hb
    simp[at',bG,List.getD_eq_getElem?_getD,hv] at hb
   ·rintro⟨k,hk,_⟩;omega
  ·rintro i ⟨x,seen⟩ next hi ⟨⟨hx,hz⟩,hl,hs⟩ hn
   dsimp only at hx hl hs
   subst hx
   have hit:∀e,plE o o.length i=e->e≠0->Q (jO e):=λe he hne=>by
    have:=iy hz (by rw[he];exact hne) o.length hi
    rw[this,he] at h
    exact h
   refine condT (λ_=>⟨⟨by omega,by omega⟩,λb=>b=decide (at' o (i:Int)<0\/(o.length:Int)<=at' o (i:Int)),condT (λh3=>?_) (λh3=>?_),λb hb=>?_⟩) (λhc=>absurd (show(i:Int)<o.length by omega) hc)
   ·rw[decide_eq_true (.inl h3)]
   ·exact decide_eq_decide.2 om
   subst hb
   refine condT (λh3=>hit 3 (by rw[plE,if_pos h3]) (by decide)) (λh3=>⟨by omega,?_⟩)
   obtain⟨v,hv⟩:∃v:Nat,at' o (i:Int)=v:=⟨(at' o (i:Int)).toNat,by omega⟩
   have hvl:v<o.length:=om
   rw[hv]
   have hsv:=hs v hvl
   refine cx (λh4=>hit 6 (by rw[plE,if_neg h3,hv,if_pos (hsv.1 h4)]) (by decide)) (λh4=>⟨by omega,by unfold rng;omega,hn _ ⟨⟨by dsimp only;omega,λj hj=>?_⟩,by dsimp only;rw[cg];exact hl,λu hu=>?_⟩⟩)
   ·rcases Nat.lt_or_ge j i with h5 | h5
    ·exact hz j h5
    ·obtain rfl:j=i:=om
     rw[plE,if_neg h3,hv,if_neg (λhc=>by rw[hsv.2 hc] at h4;cases h4)]
   ·dsimp only
    rw[lc om]
    split
    ·rename_i he
     subst he
     exact⟨λ_=>⟨i,by omega,hv⟩,λ_=>rfl⟩
    ·rename_i he
     rw[hs u hu]
     constructor
     ·rintro⟨k,hk,hk'⟩;exact⟨k,by omega,hk'⟩
     ·rintro⟨k,hk,hk'⟩
      rcases Nat.lt_or_ge k i with h5 | h5
      ·exact⟨k,h5,hk'⟩
      ·obtain rfl:k=i:=om
       omega
  ·rintro⟨x,seen⟩ next ⟨⟨hx,hz⟩,_⟩
   dsimp only at hx
   subst hx
   refine condT (λhc=>absurd hc om) (λ_=>?_)
   rw[cD.2 hz] at h
   exact h
structure Or14 (o:List Int):Prop where
 le:o.length<=24
 rg:∀i:Nat,i<o.length->0<=at' o (i:Int)/\at' o (i:Int)<o.length
 inj:∀i j:Nat,i<o.length->j<o.length->at' o (i:Int)=at' o (j:Int)->i=j
theorem jh {o:List Int} (h:gJ o o.length=0):Or14 o:=by
 unfold gJ at h
 split at h
 ·cases h
 ·rw[if_neg (by simp)] at h
  have hz:=cD.1 h
  have hp:∀i,i<o.length->(0<=at' o (i:Int)/\at' o (i:Int)<o.length)/\∀k,k<i->at' o (k:Int)≠at' o (i:Int):=λi hi=>by
   have:=hz i hi
   unfold plE at this
   split at this
   ·cases this
   ·split at this
    ·cases this
    ·rename_i h1 h2;exact⟨by omega,λk hk he=>h2 ⟨k,hk,he⟩⟩
  refine⟨by omega,λi hi=>(hp i hi).1,λi j hi hj he=>?_⟩
  rcases Nat.lt_trichotomy i j with h1 | h1 | h1
  ·exact absurd he ((hp j hj).2 i h1)
  ·exact h1
  ·exact absurd he.symm ((hp i hi).2 j h1)
theorem n8 {o:List Int} (h:Or14 o):gJ o o.length=0:=by
 have:=h.le
 unfold gJ
 rw[if_neg om,if_neg (by simp)]
 refine cD.2 λi hi=>?_
 have:=h.rg i hi
 rw[plE,if_neg om,if_neg (λ⟨k,hk,he⟩=>by have:=h.inj k i om hi he;omega)]
theorem j7:∀(m:Nat) (l:List Nat),l.Nodup->(∀x∈l,x<m)->l.length<=m
 | 0,l,_,h=>by
  cases l with
  | nil=>simp
  | cons x l=>have:=h x (by simp);omega
 | m+1,l,hd,h=>by
  by_cases hm:m∈l
  ·have h1:=j7 m (l.erase m) (hd.erase m) (λx hx=>by
    have h2:=h x (List.mem_of_mem_erase hx)
    have h3:x≠m:=λhe=>by subst he;exact(hd.not_mem_erase) hx
    omega)
   have:=List.length_erase_of_mem hm
   omega
  ·have:=j7 m l hd (λx hx=>by
    have h2:=h x hx
    have h3:x≠m:=λhe=>hm (he▸hx)
    omega)
   omega
theorem rv {l:List Nat} (hd:l.Nodup) (h:∀x∈l,x<l.length) {v:Nat} (hv:v<l.length):v∈l:=by
 by_cases hm:v∈l
 ·exact hm
 ·exfalso
  have h1:=j7 l.length (v :: l) (List.nodup_cons.2 ⟨hm,hd⟩) (λx hx=>by
   rcases List.mem_cons.1 hx with rfl | hx
   ·exact hv
   ·exact h x hx)
  simp at h1
  omega
def nc (o:List Int):List Nat:=o.map Int.toNat
def dv (o:List Int):Nat->Nat:=λv=>(nc o).idxOf v
section
variable {o:List Int}
theorem fO:(nc o).length=o.length:=by simp[nc]
theorem kh {i:Nat} (h:i<o.length):(nc o)[i]? = some (at' o (i:Int)).toNat:=by
 simp[nc,at',List.getD_eq_getElem?_getD,List.getElem?_eq_getElem h]
theorem Or14.nodup (h:Or14 o):(nc o).Nodup:=by
 rw[List.Nodup,List.pairwise_iff_getElem]
 intro i j hi hj hij he
 rw[fO] at hi hj
 have h1:=kh hi
 have h2:=kh hj
 rw[List.getElem?_eq_getElem (by rw[fO];exact hi)] at h1
 rw[List.getElem?_eq_getElem (by rw[fO];exact hj)] at h2
 have h3:=Option.some.inj h1
 have h4:=Option.some.inj h2
 have h5:=h.rg i hi
 have h6:=h.rg j hj
 have:=h.inj i j hi hj om
 omega
theorem Or14.all (h:Or14 o) {v:Nat} (hv:v<o.length):v∈nc o:=by
 refine rv h.nodup (λx hx=>?_) (by rw[fO];exact hv)
 obtain⟨i,hi⟩:=List.mem_iff_getElem?.1 hx
 have hil:i<o.length:=by have:=(List.getElem?_eq_some_iff.1 hi).1;rwa[fO] at this
 rw[kh hil] at hi
 have:=h.rg i hil
 rw[fO]
 have:=Option.some.inj hi
 omega
theorem Or14.lev_at (h:Or14 o) {i:Nat} (hi:i<o.length):dv o (at' o (i:Int)).toNat=i:=by
 have h1:=kh hi
 have hil:i<(nc o).length:=by rw[fO];exact hi
 rw[List.getElem?_eq_getElem hil] at h1
 unfold dv
 rw[<-Option.some.inj h1]
 exact h.nodup.idxOf_getElem i hil
theorem Or14.at_lev (h:Or14 o) {v:Nat} (hv:v<o.length):dv o v<o.length/\at' o (dv o v:Int)=v:=by
 have hm:=h.all hv
 have hl:dv o v<(nc o).length:=List.idxOf_lt_length_of_mem hm
 have hl':dv o v<o.length:=by rwa[fO] at hl
 refine⟨hl',?_⟩
 have h1:=kh hl'
 rw[List.getElem?_eq_getElem hl] at h1
 have h2:(nc o)[dv o v]=v:=List.getElem_idxOf hl
 rw[h2] at h1
 have:=h.rg _ hl'
 have:=Option.some.inj h1
 omega
theorem mA {Q:List Int->Prop} (h:Or14 o) (hQ:∀r:List Int,r.length=o.length->(∀v:Nat,v<o.length->at' r (v:Int)=(dv o v:Int))->Q r):eX o Q:=by
 have hle:=h.le
 refine⟨⟨by omega,by omega,by omega⟩,?_⟩
 refine fI (n:=o.length) (λi y=>y.1=(i:Int)/\y.2.length=o.length/\∀v:Nat,v<o.length->dv o v<i->at' y.2 (v:Int)=(dv o v:Int)) (λy=>y.1) 0 (λi y hy=>by rw[hy.1];omega) ⟨rfl,by simp[bG],λv hv hl=>absurd hl om⟩ ?_ ?_
 ·rintro i ⟨x,out⟩ next hi ⟨hx,hl,hI⟩ hn
  dsimp only at hx hl hI
  subst hx
  have hr:=h.rg i hi
  obtain⟨v,hv⟩:∃v:Nat,at' o (i:Int)=v:=⟨(at' o (i:Int)).toNat,by omega⟩
  have hlv:=h.lev_at hi
  rw[hv,Int.toNat_natCast] at hlv
  refine condT (λ_=>⟨⟨by omega,by omega⟩,by omega,by unfold rng;omega,hn _ ⟨by dsimp only;omega,by dsimp only;rw[cg];exact hl,λu hu hul=>?_⟩⟩) (λhc=>absurd (show(i:Int)<o.length by omega) hc)
  dsimp only
  rw[hv,lc om]
  split
  ·rename_i he;subst he;rw[hlv]
  ·rename_i he
   refine hI u hu ?_
   rcases Nat.lt_or_ge (dv o u) i with h5 | h5
   ·exact h5
   ·have h6:=(h.at_lev hu).2
    rw[show dv o u=i by omega,hv] at h6
    omega
 ·rintro⟨x,out⟩ next ⟨hx,hl,hI⟩
  dsimp only at hx hl hI
  subst hx
  exact condT (λhc=>absurd hc om) (λ_=>hQ out hl λv hv=>hI v hv (h.at_lev hv).1)
end
end Go.Gg
namespace Go.Gg
theorem rR {e:Int} (h:e≠0):Option.isSome (jO e)=true:=by simp[jO,h]
theorem gD {e:Int} (h:e≠0):jO e=some e:=by simp[jO,h]
end Go.Gg
namespace Go.Gg
theorem eV {α:Type} {n:Int} {x:α} (h:0<=n):((bG n x).length:Int)=n:=by simp[bG];omega
theorem uw {α:Type} [Inhabited α] {a b:List α} {i:Int} (h:at' a i≠at' b i):a≠b:=λhe=>h (by rw[he])
theorem vJ {α:Type} [Inhabited α] {a b:List α} {Q:Bool->Prop} {E:α->α->Bool} (hE:∀x y,E x y=false↔x=y) [Decidable (a=b)] (la:a.length<=9223372036854775807) (hl:a.length=b.length) (h:Q (decide (a=b))) :
  aU (σ:=Int) 0 λx next1=>
   ae (decide (x<(a.length:Int)))
    (((0:Int)<=x/\x<(a.length:Int))/\
    ((0:Int)<=x/\x<(b.length:Int))/\
    ae (E (at' a x) (at' b x))
     (Q false)
     (rng (x+1)/\
     next1 (x+1)))
    (Q true):=by
 refine oY (n:=a.length) (λi=>at' a (i:Int)≠at' b (i:Int)) la (λi next hi hI hn=>⟨⟨by omega,by omega⟩,⟨by omega,by omega⟩,cx (λhc=>?_) (λhc=>hn (λhh=>hh ((hE _ _).1 hc)))⟩) (λhI=>?_)
 ·have hne:at' a (i:Int)≠at' b (i:Int):=λhh=>by rw[(hE _ _).2 hh] at hc;cases hc
  rw[decide_eq_false (uw hne)] at h
  exact h
 ·rw[decide_eq_true (tC hl λi hi=>by have:=hI i hi;exact Classical.not_not.1 this)] at h
  exact h
theorem vR {x y:Int}:(x != y)=false↔x=y:=by simp
theorem fQ {a b:List Int} {Q:Bool->Prop} (la:a.length<=9223372036854775807) (h:Q (decide (a=b))):dV a b Q:=
 gE (λhc=>by rw[decide_eq_false (λhe=>hc (by rw[he]))] at h;exact h) (λhc=>vJ (E:=λx y=>x != y) (λ_ _=>vR) la om h)
end Go.Gg
namespace Go.Gg
theorem nE {α:Type} {l:List α} {x:α}:(l++[x]).length=l.length+1:=by simp
end Go.Gg
namespace Go.Gg
theorem da {α:Type} [Inhabited α] {l:List α} {a:Int} {x:α} {j:Int} (ha:0<=a/\a<l.length) (hj:0<=j):at' (set' l a x) j=if j=a then x else at' l j:=by
 obtain⟨n,rfl⟩:∃n:Nat,a=n:=⟨a.toNat,by omega⟩
 obtain⟨m,rfl⟩:∃n:Nat,j=n:=⟨j.toNat,by omega⟩
 rw[lc om]
 by_cases h:m=n
 ·rw[if_pos h,if_pos om]
 ·rw[if_neg h,if_neg om]
def gm (as:List Int) (m:List Bool):List Bool:=as.foldl (λm a=>set' m a true) m
theorem jG:∀(as:List Int) (m:List Bool),(gm as m).length=m.length
 | [],_=>rfl
 | a :: as,m=>by rw[gm,List.foldl_cons];exact(jG as _).trans cg
theorem kB:∀(as:List Int) (m:List Bool) {j:Int},(∀a∈as,0<=a/\a<m.length)->0<=j->(at' (gm as m) j=true↔at' m j=true\/j∈as)
 | [],m,j,_,_=>by simp[gm]
 | a :: as,m,j,h,hj=>by
  have ha:=h a (by simp)
  have ih:=kB as (set' m a true) (j:=j) (λb hb=>by rw[cg];exact h b (List.mem_cons_of_mem _ hb)) hj
  rw[gm,List.foldl_cons]
  show at' (gm as (set' m a true)) j=true↔_
  rw[ih,da ha hj,List.mem_cons]
  by_cases he:j=a
  ·rw[if_pos he];simp[he]
  ·rw[if_neg he];simp[he]
theorem oX {as:List Int} {a:Int} {m:List Bool}:gm (as++[a]) m=set' (gm as m) a true:=by simp[gm]
theorem gl {α:Type} [Inhabited α] {l:List α} {j:Nat} (h:j<l.length):l.take (j+1)=l.take j++[at' l (j:Int)]:=by
 rw[List.take_add_one,List.getElem?_eq_getElem h]
 simp[at',List.getD_eq_getElem?_getD,h]
theorem lB {α:Type} [Inhabited α] {l:List α} {j:Nat} (h:j<l.length):at' l (j:Int)∈l:=by
 simp only[at',Int.toNat_natCast,List.getD_eq_getElem?_getD,List.getElem?_eq_getElem h,Option.getD_some]
 exact List.getElem_mem h
theorem wo {α:Type} [Inhabited α] {l:List α} {x:α} (h:x∈l):∃j:Nat,j<l.length/\at' l (j:Int)=x:=by
 obtain⟨j,hj,rfl⟩:=List.mem_iff_getElem.1 h
 exact⟨j,hj,by simp[at',List.getD_eq_getElem?_getD,hj]⟩
def oS (f:GFormula) (i:Nat) (m:List Bool):List Bool:=if at' m (f.Vars+i)=true then gm (at' f.Nodes (i:Int)).Args m else m
def dh (f:GFormula):Nat->List Bool
 | 0=>set' (bG (f.Vars+(f.Nodes.length:Int)) false) f.Top true
 | k+1=>oS f (f.Nodes.length-1-k) (dh f k)
section
variable {f:GFormula}
theorem ig (g:FG f):∀k,((dh f k).length:Int)=f.Vars+f.Nodes.length
 | 0=>by
  have:=g.v0
  rw[dh,cg,eV om]
 | k+1=>by
  rw[dh,oS]
  split
  ·rw[jG];exact ig g k
  ·exact ig g k
theorem iB (g:FG f) {i:Nat} (hi:i<f.Nodes.length):∀a∈(at' f.Nodes (i:Int)).Args,0<=a/\a<f.Vars+i:=λa ha=>by
 obtain⟨j,hj,rfl⟩:=wo ha
 exact(fN (g.node i hi)).arg j hj
structure Below (f:GFormula) (k:Nat) (m:List Bool):Prop where
 top:at' m f.Top=true
 cl:∀i:Nat,f.Nodes.length-k<=i->i<f.Nodes.length->at' m (f.Vars+i)=true->∀a∈(at' f.Nodes (i:Int)).Args,at' m a=true
theorem dR (g:FG f):∀k,k<=f.Nodes.length->Below f k (dh f k)
 | 0,_=>by
  have:=g.v0;have:=g.top0;have:=g.top
  have hl:((bG (f.Vars+(f.Nodes.length:Int)) false).length:Int)=f.Vars+f.Nodes.length:=eV om
  refine⟨?_,λi h1 h2=>om⟩
  rw[dh,da om om,if_pos rfl]
 | k+1,hk=>by
  have ih:=dR g k om
  have hl:=ig g k
  have v0:=g.v0
  have hi:f.Nodes.length-1-k<f.Nodes.length:=om
  have hin:=iB g hi
  have hin':∀a∈(at' f.Nodes ((f.Nodes.length-1-k:Nat):Int)).Args,0<=a/\a<(dh f k).length:=λa ha=>by have:=hin a ha;omega
  rw[dh,oS]
  split
  ·rename_i hm
   refine⟨(kB _ _ hin' g.top0).2 (.inl ih.top),λi h1 h2 h3 a ha=>?_⟩
   have ha0:=iB g h2 a ha
   rw[kB _ _ hin' om] at h3 ⊢
   by_cases he:i=f.Nodes.length-1-k
   ·subst he;exact .inr ha
   ·rcases h3 with h3 | h3
    ·exact .inl (ih.cl i om h2 h3 a ha)
    ·have:=hin _ h3;omega
  ·rename_i hm
   refine⟨ih.top,λi h1 h2 h3 a ha=>?_⟩
   by_cases he:i=f.Nodes.length-1-k
   ·subst he;exact absurd h3 hm
   ·exact ih.cl i om h2 h3 a ha
theorem uG (g:FG f) {Q:List Bool->Prop} (hQ:Q (dh f f.Nodes.length)):f0 f Q:=by
 have v0:=g.v0;have v24:=g.v24;have n128:=g.n128;have t0:=g.top0;have tt:=g.top
 refine⟨by unfold rng;omega,⟨by omega,by omega,by omega,by omega⟩,by omega,by unfold rng;omega,?_⟩
 refine⟨λy=>∃k:Nat,k<=f.Nodes.length/\y=((f.Nodes.length:Int)-1-k,dh f k),λy=>(y.1+1).toNat,⟨0,by omega,by simp[dh]⟩,?_⟩
 rintro _ ⟨k,hk,rfl⟩
 refine condT (λhc=>?_) (λhc=>?_)
 ·have ei:(f.Nodes.length:Int)-1-k=((f.Nodes.length-1-k:Nat):Int):=om
  have hi:f.Nodes.length-1-k<f.Nodes.length:=om
  have hl:=ig g k
  have hin:=iB g hi
  rw[ei]
  refine⟨by unfold rng;omega,by omega,cx (λhm=>⟨by omega,?_⟩) (λhm=>⟨by unfold rng;omega,⟨k+1,by omega,?_⟩,by dsimp only;omega⟩)⟩
  ·have ll:=(fN (g.node _ hi)).len
   refine gX (n:=(at' f.Nodes ((f.Nodes.length-1-k:Nat):Int)).Args.length) (λj=>((j:Int),gm ((at' f.Nodes ((f.Nodes.length-1-k:Nat):Int)).Args.take j) (dh f k))) (λy=>y.1) 0 (λi=>by dsimp only;omega) rfl (λj next hj hn=>?_) (λnext=>?_)
   ·have ha:=hin _ (lB hj)
    refine condT (λ_=>⟨by omega,by rw[jG];omega,by unfold rng;omega,?_⟩) (λhc=>absurd (show(j:Int)<_ by omega) hc)
    rw[gl hj,oX] at hn
    exact hn
   ·refine condT (λhc=>absurd hc om) (λ_=>⟨by unfold rng;omega,⟨k+1,by omega,?_⟩,by dsimp only;omega⟩)
    rw[List.take_length,dh,oS,if_pos hm]
    refine Prod.ext ?_ rfl
    show _=_
    simp only;omega
  ·rw[dh,oS,if_neg (by rw[hm];simp)]
   refine Prod.ext ?_ rfl
   show _=_
   simp only;omega
 ·obtain rfl:k=f.Nodes.length:=om
  exact hQ
theorem sS {α:Type} [Inhabited α] {l:List α} {a:Int} (h:0<=a/\a<=l.length):((cU l a (l.length:Int)).length:Int)=l.length-a/\∀i:Nat,(i:Int)<l.length-a->at' (cU l a (l.length:Int)) (i:Int)=at' l (a+i):=by
 obtain⟨n,rfl⟩:∃n:Nat,a=n:=⟨a.toNat,by omega⟩
 refine⟨by simp[cU];omega,λi hi=>?_⟩
 rw[show(n:Int)+(i:Int)=((n+i:Nat):Int) by omega]
 simp only[at',cU,List.getD_eq_getElem?_getD,Int.toNat_natCast]
 rw[List.getElem?_take,if_pos om,List.getElem?_drop]
theorem uH {α β:Type} [Inhabited α] [Inhabited β] {l:List α} {g:α->β} {j:Nat} (h:j<l.length):at' (l.map g) (j:Int)=g (at' l (j:Int)):=by
 simp[at',List.getD_eq_getElem?_getD,h]
end
end Go.Gg
namespace Go.Gg
def sm:Nat->(Nat->Nat)->Nat
 | 0,_=>0
 | n+1,f=>sm n f+f n
theorem dI {f g:Nat->Nat}:∀n,(∀i,i<n->f i=g i)->sm n f=sm n g
 | 0,_=>rfl
 | n+1,h=>by rw[sm,sm,dI n (λi hi=>h i om),h n om]
theorem qB {f g:Nat->Nat}:∀n,(∀i,i<n->f i<=g i)->sm n f<=sm n g
 | 0,_=>Nat.le_refl _
 | n+1,h=>by
  have h1:=qB (f:=f) (g:=g) n (λi hi=>h i om)
  have h2:=h n om
  rw[sm,sm];omega
theorem sV {f g:Nat->Nat}:∀n,sm n (λi=>f i+g i)=sm n f+sm n g
 | 0=>rfl
 | n+1=>by rw[sm,sm,sm,sV n];omega
theorem qy:∀n,sm n (λ_=>0)=0
 | 0=>rfl
 | n+1=>by rw[sm,qy n]
theorem j0 {c:Nat}:∀n,sm n (λ_=>c)=n*c
 | 0=>by simp[sm]
 | n+1=>by rw[sm,j0 n,Nat.succ_mul]
theorem qz {m:Nat} {f:Nat->Nat->Nat}:∀n,sm n (λi=>sm m (λj=>f i j))=sm m (λj=>sm n (λi=>f i j))
 | 0=>by simp only[sm];exact(qy m).symm
 | n+1=>by rw[sm,qz n,<-sV];exact dI m λj _=>rfl
theorem pQ {c x:Nat}:∀n,sm n (λi=>if i=c then x else 0)=if c<n then x else 0
 | 0=>by simp[sm]
 | n+1=>by
  rw[sm,pQ n]
  by_cases h:n=c
  ·subst h;simp
  ·rw[if_neg h]
   by_cases h2:c<n
   ·rw[if_pos h2,if_pos om,Nat.add_zero]
   ·rw[if_neg h2,if_neg om]
theorem qA {f:Nat->Nat} {k:Nat}:∀n,k<=n->sm n (λi=>if i<k then f i else 0)=sm k f
 | 0,h=>by
        obtain rfl:k=0:=om
        rfl
 | n+1,h=>by
  by_cases hk:k=n+1
  ·subst hk;exact dI _ λi hi=>if_pos hi
  ·rw[sm,qA n om,if_neg om];rfl
structure Bij (n:Nat) (p a:Nat->Nat):Prop where
 lt:∀v,v<n->p v<n
 lt':∀k,k<n->a k<n
 ap:∀v,v<n->a (p v)=v
 pa:∀k,k<n->p (a k)=k
theorem sU {n:Nat} {p a f:Nat->Nat} (h:Bij n p a):sm n (λv=>f (p v))=sm n f:=by
 have e1:sm n (λv=>f (p v))=sm n (λv=>sm n (λk=>if k=p v then f k else 0)):=dI n λv hv=>by
  have:sm n (λk=>if k=p v then f k else 0)=sm n (λk=>if k=p v then f (p v) else 0):=dI n λk _=>by
   by_cases hk:k=p v
   ·rw[if_pos hk,if_pos hk,hk]
   ·rw[if_neg hk,if_neg hk]
  rw[this,pQ,if_pos (h.lt v hv)]
 rw[e1,qz]
 refine dI n λk hk=>?_
 have:sm n (λv=>if k=p v then f k else 0)=sm n (λv=>if v=a k then f k else 0):=dI n λv hv=>by
  by_cases hkv:k=p v
  ·rw[if_pos hkv,if_pos (by rw[hkv,h.ap v hv])]
  ·rw[if_neg hkv,if_neg (λhc=>hkv (by rw[hc,h.pa k hk]))]
 rw[this,pQ,if_pos (h.lt' k hk)]
def ind (b:Prop) [Decidable b]:Nat:=if b then 1 else 0
theorem rK {b c:Prop} [Decidable b] [Decidable c] (h:b↔c):ind b=ind c:=by
 unfold ind
 by_cases hb:b
 ·rw[if_pos hb,if_pos (h.1 hb)]
 ·rw[if_neg hb,if_neg (λhc=>hb (h.2 hc))]
theorem tz {b:Prop} [Decidable b] (h:¬b):ind b=0:=if_neg h
theorem uB {b:Prop} [Decidable b] (h:b):ind b=1:=if_pos h
def wn (n:Nat) (p q:Nat->Nat):Nat:=sm n λv=>sm n λu=>ind (p u<p v/\q v<q u)
theorem p9 {n:Nat} {p a q:Nat->Nat} (h:Bij n p a):sm n (λk=>sm k λj=>ind (q (a k)<q (a j)))=wn n p q:=by
 have e:∀k,k<n->sm k (λj=>ind (q (a k)<q (a j)))=sm n (λj=>ind (j<k/\q (a k)<q (a j))):=λk hk=>by
  rw[<-qA n (by omega:k<=n)]
  refine dI n λj _=>?_
  by_cases hj:j<k
  ·rw[if_pos hj];exact rK ⟨λh=>⟨hj,h⟩,λh=>h.2⟩
  ·rw[if_neg hj];exact(tz λh=>hj h.1).symm
 rw[dI n e,<-sU (f:=λk=>sm n (λj=>ind (j<k/\q (a k)<q (a j)))) h]
 refine dI n λv hv=>?_
 rw[<-sU (f:=λj=>ind (j<p v/\q (a (p v))<q (a j))) h]
 refine dI n λu hu=>?_
 show ind (p u<p v/\q (a (p v))<q (a (p u)))=_
 rw[h.ap v hv,h.ap u hu]
end Go.Gg
namespace Go.Gg
section
theorem tB {e:Int} {A B:Prop} (h0:e≠0->A) (h1:e=0->B):ae (Option.isSome (jO e)) A B:=by
 by_cases h:e=0
 ·rw[h];exact cx (λhc=>by cases hc) (λ_=>h1 h)
 ·exact cx (λ_=>h0 h) (λhc=>by rw[rR h] at hc;cases hc)
end
end Go.Gg
namespace Go.Gg
theorem jA {α:Type} [Inhabited α] {l:List α} {i:Nat} (h:i<l.length):at' l (i:Int)=l[i]:=by
 unfold at'
 rw[List.getD_eq_getElem?_getD,Int.toNat_natCast,List.getElem?_eq_getElem h]
 rfl
def nf (lt:Int->Int->Bool) (x:Int):List Int->List Int
 | []=>[x]
 | b :: l=>if lt x b then b :: nf lt x l else x :: b :: l
def oh (lt:Int->Int->Bool) (A:List Int) (x:Int):List Int:=(nf lt x A.reverse).reverse
def d8 (lt:Int->Int->Bool) (l:List Int):List Int:=l.foldl (oh lt) []
section
variable {lt:Int->Int->Bool}
theorem qV {x:Int}:∀(C B:List Int),(∀c∈C,lt x c=true)->(∀b B',B=b :: B'->lt x b=false)->nf lt x (C++B)=C++x :: B
 | [],[],_,_=>rfl
 | [],b :: B,_,h=>by rw[List.nil_append,nf,if_neg (by rw[h b B rfl];simp)];rfl
 | c :: C,B,h,h'=>by
  rw[List.cons_append,nf,if_pos (h c (by simp)),qV C B (λa ha=>h a (by simp[ha])) h']
  rfl
theorem uA {x:Int} {B C:List Int} (h:∀c∈C,lt x c=true) (h':∀b B',B=B'++[b]->lt x b=false):oh lt (B++C) x=B++x :: C:=by
 unfold oh
 rw[List.reverse_append,qV C.reverse B.reverse (λc hc=>h c (by simpa using hc)) (λb B' hb=>h' b B'.reverse (by
  have:=congrArg List.reverse hb
  simpa using this))]
 simp
theorem nG {x:Int}:∀l:List Int,(nf lt x l).Perm (x :: l)
 | []=>List.Perm.refl _
 | b :: l=>by
  rw[nf]
  split
  ·exact((nG l).cons b).trans (List.Perm.swap x b l)
  ·exact List.Perm.refl _
theorem rJ {x:Int} {A:List Int}:(oh lt A x).Perm (A++[x]):=by
 unfold oh
 refine(List.reverse_perm _).trans ((nG _).trans ?_)
 refine((List.reverse_perm A).cons x).trans ?_
 exact(List.perm_append_singleton x A).symm
theorem iw {l:List Int} {x:Int}:d8 lt (l++[x])=oh lt (d8 lt l) x:=by simp[d8]
theorem eI:∀l:List Int,(d8 lt l).Perm l:=qx (List.Perm.refl _) λl x ih=>by
 rw[iw]
 exact rJ.trans (ih.append_right [x])
theorem jl {l:List Int}:(d8 lt l).length=l.length:=(eI l).length_eq
theorem pm {lt':Int->Int->Bool}:∀l:List Int,(∀x∈l,∀y∈l,lt x y=lt' x y)->d8 lt l=d8 lt' l:=qx (λ_=>rfl) λl x ih h=>by
 rw[iw,iw,ih (λa ha b hb=>h a (by simp[ha]) b (by simp[hb]))]
 have hm:∀y∈(d8 lt' l).reverse,y∈l:=λy hy=>(eI l).mem_iff.1 (by simpa using hy)
 unfold oh
 generalize (d8 lt' l).reverse=r at hm
 congr 1
 induction r with
 | nil=>rfl
 | cons b r ih2=>
  rw[nf,nf,h x (by simp) b (by simp[hm b (by simp)]),ih2 (λy hy=>hm y (by simp[hy]))]
end
def kT (C:Int->Int->(Int->Prop)->Prop) (a b:Int) (data:List Int) (Q:List Int->Prop):Prop:=
 rng (a+1)/\
 aU (σ:=Int×(List Int)) ((a+1),data) λ⟨i,data1⟩ next1=>
  ae (decide (i<b))
   (aU (σ:=Int×(List Int)) (i,data1) λ⟨j,data2⟩ next2=>
    ae (decide (a<j))
     (((0:Int)<=j/\j<(data2.length:Int))/\
     rng (j-1)/\
     ((0:Int)<=(j-1)/\(j-1)<(data2.length:Int))/\
     ∃r,(C (at' data2 j) (at' data2 (j-1)) λy1=>y1=r)/\
     ae (decide (r<0))
      (rng (j-1)/\
      rng (j-1)/\
      ((0:Int)<=(j-1)/\(j-1)<(data2.length:Int))/\
      ((0:Int)<=j/\j<(data2.length:Int))/\
      ((0:Int)<=j/\j<(data2.length:Int))/\
      ((0:Int)<=(j-1)/\(j-1)<(data2.length:Int))/\
      rng (j-1)/\
      next2 ((j-1),(set' (set' data2 j (at' data2 (j-1))) (j-1) (at' data2 j))))
      (rng (i+1)/\
      next1 ((i+1),data2)))
     (rng (i+1)/\
     next1 ((i+1),data2)))
   (Q data1)
theorem tN {α:Type} [Inhabited α] {B T:List α} {x:α}:at' (B++x :: T) (B.length:Int)=x:=by
 rw[jA (by simp)]
 simp
theorem sR {B T:List Int} {b x:Int}:set' (set' (B++b :: x :: T) ((B.length+1:Nat):Int) b) (B.length:Int) x=B++x :: b :: T:=by
 rw[cX,cX]
 rw[List.set_append_right _ _ om,List.set_append_right _ _ om]
 simp
theorem kS {C:Int->Int->(Int->Prop)->Prop} {c:Int->Int->Int} {A l D:List Int} {Q:List Int->Prop} (hC:∀x∈l,∀y∈l,∀K:Int->Prop,K (c x y)->C x y K) (hl:A.length+l.length+D.length<=1099511627776)
  (hQ:Q (A++d8 (λx y=>decide (c x y<0)) l++D)):kT C (A.length:Int) ((A.length+l.length:Nat):Int) (A++l++D) Q:=by
 generalize hlt:(λx y:Int=>decide (c x y<0))=lt at hQ
 have hltd:∀x y,lt x y=decide (c x y<0):=λx y=>by rw[<-hlt]
 refine⟨by unfold rng;omega,?_⟩
 match l,hC,hl,hQ with
 | [],_,hl,hQ=>
  refine⟨λy=>y.2=A++[]++D/\y.1=(A.length:Int)+1,λ_=>0,⟨rfl,rfl⟩,?_⟩
  rintro⟨i,data⟩ ⟨h1,h2⟩
  dsimp only at h1 h2
  subst h1 h2
  refine condT (λhc=>?_) (λ_=>hQ)
  simp only[List.length_nil,Nat.add_zero] at hc
  omega
 | z :: l',hC,hl,hQ=>
 generalize hL:z :: l'=l at hC hl hQ ⊢
 have hpos:0<l.length:=by rw[<-hL];simp
 refine fI (n:=l.length-1) (λk y=>y.1=(k:Int)+((A.length:Int)+1)/\y.2=A++d8 lt (l.take (k+1))++(l.drop (k+1)++D)) (λy=>y.1) ((A.length:Int)+1) (λk y hy=>hy.1) ⟨by dsimp only;omega,?_⟩ ?_ ?_
 ·dsimp only
  rw[<-hL]
  simp[d8,oh,nf]
 ·rintro k ⟨i,data⟩ next hk ⟨hi,hd⟩ hn
  dsimp only at hi hd
  subst hi hd
  have hk1:k+1<l.length:=om
  refine condT (λ_=>?_) (λhc=>absurd (show(k:Int)+((A.length:Int)+1)<((A.length+l.length:Nat):Int) by omega) hc)
  obtain⟨x,hx⟩:∃x,l[k+1]=x:=⟨_,rfl⟩
  have hxl:x∈l:=hx▸List.getElem_mem hk1
  have hdrop:l.drop (k+1)=x :: l.drop (k+2):=by rw[List.drop_eq_getElem_cons hk1,hx]
  have htake:l.take (k+2)=l.take (k+1)++[x]:=by rw[List.take_succ_eq_append_getElem hk1,hx]
  obtain⟨S,hS⟩:∃S,d8 lt (l.take (k+1))=S:=⟨_,rfl⟩
  have hSl:S.length=k+1:=by rw[<-hS,jl,List.length_take];omega
  have hSm:∀y∈S,y∈l:=λy hy=>by
   rw[<-hS] at hy
   exact List.mem_of_mem_take ((eI _).mem_iff.1 hy)
  have hnext:d8 lt (l.take (k+1+1))=oh lt S x:=by rw[show k+1+1=k+2 from rfl,htake,iw,hS]
  rw[hnext] at hn
  rw[hS,hdrop]
  have hfull:∀B E:List Int,B++E=S->A.length+(B.length+(E.length+1))+(l.drop (k+2)).length=A.length+l.length:=λB E hBE=>by
   have:B.length+E.length=k+1:=by rw[<-hSl,<-hBE,List.length_append]
   rw[List.length_drop];omega
  refine⟨λy=>∃B E,B++E=S/\(∀e∈E,lt x e=true)/\y.1=(A.length:Int)+(B.length:Int)/\y.2=A++B++x :: (E++(l.drop (k+2)++D)),λy=>y.1.toNat,⟨S,[],by simp,λe he=>by simp at he,by dsimp only;rw[hSl];omega,by simp⟩,?_⟩
  rintro⟨j,data⟩ ⟨B,E,hBE,hE,hj,hd⟩
  dsimp only at hj hd
  subst hj hd
  have hlen:=hfull B E hBE
  have hdl:(A++B++x :: (E++(l.drop (k+2)++D))).length=A.length+l.length+D.length:=by
   simp only[List.length_append,List.length_cons] at hlen ⊢;omega
  have fin:(B=[]\/∃b B',B=B'++[b]/\lt x b=false)->rng ((k:Int)+((A.length:Int)+1)+1)/\next ((k:Int)+((A.length:Int)+1)+1,A++B++x :: (E++(l.drop (k+2)++D))):=λhB=>by
   refine⟨by unfold rng;omega,hn _ ⟨by dsimp only;omega,?_⟩⟩
   dsimp only
   rw[<-hBE,uA hE (λb B' hb=>by
    rcases hB with rfl | ⟨b2,B2,hb2,hlt2⟩
    ·simp at hb
    ·rw[hb2] at hb
     have:=List.append_inj_right' hb rfl
     injection this with h1 _
     rw[<-h1];exact hlt2)]
   simp
  refine condT (λhc=>?_) (λhc=>?_)
  ·obtain⟨b,B',rfl⟩:∃b B',B=B'++[b]:=⟨B.getLast (by rintro rfl;simp at hc),B.dropLast,(List.dropLast_concat_getLast _).symm⟩
   have hbl:b∈l:=hSm b (by rw[<-hBE];simp)
   have hshape:A++(B'++[b])++x :: (E++(l.drop (k+2)++D))=(A++B')++b :: x :: (E++(l.drop (k+2)++D)):=by simp
   have hBl:(B'++[b]).length=B'.length+1:=by simp
   have e1:(A.length:Int)+((B'++[b]).length:Int)=(((A++B').length+1:Nat):Int):=by rw[hBl,List.length_append];omega
   have e2:(A.length:Int)+((B'++[b]).length:Int)-1=(((A++B').length:Nat):Int):=by rw[e1];omega
   have a1:at' (A++(B'++[b])++x :: (E++(l.drop (k+2)++D))) ((A.length:Int)+((B'++[b]).length:Int))=x:=by
    have:A++(B'++[b])++x :: (E++(l.drop (k+2)++D))=((A++B')++[b])++x :: (E++(l.drop (k+2)++D)):=by simp
    rw[this,show(A.length:Int)+((B'++[b]).length:Int)=(((A++B'++[b]).length:Nat):Int) by rw[hBl];simp only[List.length_append,List.length_singleton];omega,tN]
   have a2:at' (A++(B'++[b])++x :: (E++(l.drop (k+2)++D))) ((A.length:Int)+((B'++[b]).length:Int)-1)=b:=by rw[hshape,e2,tN]
   have hAB:(A++B').length+1<A.length+l.length+D.length:=by
    rw[hBl] at hlen
    rw[List.length_append];omega
   refine⟨by rw[hdl,e1];omega,by rw[e2];unfold rng;omega,by rw[hdl,e2];omega,c x b,by rw[a1,a2];exact hC x hxl b hbl _ rfl,condT (λhr=>?_) (λhr=>?_)⟩
   ·rw[a1,a2]
    refine⟨by rw[e2];unfold rng;omega,by rw[e2];unfold rng;omega,by rw[hdl,e2];omega,by rw[hdl,e1];omega,by rw[hdl,e1];omega,by rw[hdl,e2];omega,by rw[e2];unfold rng;omega,⟨B',b :: E,by rw[<-hBE];simp,λe he=>?_,by dsimp only;rw[hBl];omega,?_⟩,?_⟩
    ·rcases List.mem_cons.1 he with rfl | he
     ·rw[hltd];exact decide_eq_true hr
     ·exact hE e he
    ·dsimp only
     rw[hshape,e1,show((((A++B').length+1:Nat):Int)-1)=(((A++B').length:Nat):Int) by omega,sR]
     simp
    ·dsimp only
     rw[hBl];omega
   ·exact fin (.inr ⟨b,B',rfl,by rw[hltd];exact decide_eq_false hr⟩)
  ·exact fin (.inl (by
    have:B.length=0:=om
    exact List.eq_nil_of_length_eq_zero this))
 ·rintro⟨i,data⟩ next ⟨hi,hd⟩
  dsimp only at hi hd
  subst hi hd
  refine condT (λhc=>absurd hc om) (λ_=>?_)
  rw[show l.length-1+1=l.length by omega,List.take_length,List.drop_length,List.nil_append]
  exact hQ
end Go.Gg
namespace Go.Gg
def fx (n:Nat):List Int:=(List.range n).map λi:Nat=>(i:Int)
theorem ep {n:Nat}:(fx n).length=n:=by simp[fx]
theorem gz {n:Nat} {x:Int}:x∈fx n↔0<=x/\x<n:=by
 simp only[fx,List.mem_map,List.mem_range]
 constructor
 ·rintro⟨i,h,rfl⟩;omega
 ·intro h;exact⟨x.toNat,by omega,by omega⟩
theorem rE {n:Nat}:fx (n+1)=fx n++[(n:Int)]:=by simp[fx,List.range_succ]
theorem uq {n i:Nat} (h:i<n):at' (fx n) (i:Int)=(i:Int):=by rw[jA (by rw[ep];exact h)];simp[fx]
theorem rD {n:Nat} {Q:List Int->Prop} (hn:n<=1048576) (hQ:Q (fx n)):ey n Q:=by
 refine⟨⟨by omega,by omega,by omega,by omega⟩,?_⟩
 refine fI (n:=n) (λk y=>y.1=(k:Int)/\y.2.length=n/\∀i:Nat,i<k->at' y.2 (i:Int)=(i:Int)) (λy=>y.1) 0 (λk y hy=>by rw[hy.1];omega) ⟨rfl,by simp[bG],λi hi=>om⟩ ?_ ?_
 ·rintro k ⟨x,out⟩ next hk ⟨hx,hl,hI⟩ hn1
  dsimp only at hx hl hI
  subst hx
  rw[Int.toNat_natCast]
  refine condT (λ_=>⟨by omega,by unfold rng;omega,hn1 _ ⟨by dsimp only;omega,by dsimp only;rw[cg];exact hl,λi hi=>?_⟩⟩) (λhc=>absurd (show(k:Int)<n by omega) hc)
  dsimp only
  rw[lc om]
  split
  ·rename_i he;rw[he]
  ·exact hI i om
 ·rintro⟨x,out⟩ next ⟨hx,hl,hI⟩
  dsimp only at hx hl hI
  subst hx
  rw[Int.toNat_natCast]
  refine condT (λhc=>absurd hc om) (λ_=>?_)
  rw[show out=fx n from tC (by rw[hl,ep]) (λi hi=>by rw[hI i om,uq om])]
  exact hQ
section
variable {o:List Int}
end
end Go.Gg
namespace Go.Gg
section
variable {o a b:List Int}
def atN (o:List Int) (k:Nat):Nat:=(at' o (k:Int)).toNat
theorem Or14.atN_lt (h:Or14 o) {k:Nat} (hk:k<o.length):at' o (k:Int)=(atN o k:Int)/\atN o k<o.length:=by
 have:=h.rg k hk
 unfold atN
 exact⟨by omega,by omega⟩
theorem Or14.bij (h:Or14 o):Bij o.length (dv o) (atN o):=by
 refine⟨λv hv=>(h.at_lev hv).1,λk hk=>(h.atN_lt hk).2,λv hv=>?_,λk hk=>h.lev_at hk⟩
 unfold atN
 rw[(h.at_lev hv).2,Int.toNat_natCast]
def o7 (o:List Int):List Int:=(List.range o.length).map λv:Nat=>(dv o v:Int)
theorem my:(o7 o).length=o.length:=by simp[o7]
theorem qK {v:Nat} (h:v<o.length):at' (o7 o) (v:Int)=(dv o v:Int):=by rw[jA (by rw[my];exact h)];simp[o7]
theorem tc (h:Or14 o) {Q:List Int->Prop} (hQ:Q (o7 o)):eX o Q:=
 mA h (λr hl hr=>by
  rw[show r=o7 o from tC (by rw[hl,my]) (λi hi=>by rw[hr i om,qK om])]
  exact hQ)
def vN (a b:List Int):Nat:=wn a.length (dv a) (dv b)
def lN (a b:List Int):Int:=if gJ a a.length≠0 then gJ a a.length else if gJ b b.length≠0 then gJ b b.length else if a.length≠b.length then 11 else 0
theorem rS:lN a b=0↔Or14 a/\Or14 b/\a.length=b.length:=by
 unfold lN
 constructor
 ·intro h
  split at h
  ·rename_i h1;exact absurd h h1
  ·split at h
   ·rename_i h1;exact absurd h h1
   ·split at h
    ·cases h
    ·rename_i h1 h2 h3
     exact⟨jh (Classical.not_not.1 h1),jh (Classical.not_not.1 h2),Classical.not_not.1 h3⟩
 ·rintro⟨h1,h2,h3⟩
  rw[if_neg (λhc=>hc (n8 h1)),if_neg (λhc=>hc (n8 h2)),if_neg (λhc=>hc h3)]
def pw (q:Nat->Nat) (f:Nat->Nat) (k:Nat):Nat:=sm k λi=>sm i λj=>ind (q (f i)<q (f j))
theorem rT (q f:Nat->Nat):∀n k:Nat,n<=24->k<=n->pw q f k<=576:=by
 intro n k hn hk
 have h1:pw q f k<=sm k λ_=>24:=qB k λi hi=>by
  refine Nat.le_trans (qB (g:=λ_=>1) i λj _=>?_) ?_
  ·unfold ind;split<;>omega
  ·rw[j0];omega
 rw[j0] at h1
 omega
theorem rU (q f:Nat->Nat) (i:Nat):∀j,j<=i->sm j (λj=>ind (q (f i)<q (f j)))<=j:=by
 intro j _
 refine Nat.le_trans (qB (g:=λ_=>1) j λj _=>?_) (by rw[j0];omega)
 unfold ind;split<;>omega
theorem tE (ha:Or14 a):pw (dv b) (atN a) a.length=vN a b:=p9 ha.bij
theorem t3 {k j:Nat} (hk:k<=a.length) (hj:j<k):at' (cU a 0 (k:Int)) (j:Int)=at' a (j:Int):=by
 have hl:j<(cU a 0 (k:Int)).length:=by simp[cU];omega
 rw[jA hl,jA om]
 simp[cU]
theorem qu {k:Nat} (hk:k<=a.length):(cU a 0 (k:Int)).length=k:=by simp[cU];omega
theorem ql {Q:Int->Option Int->Prop} (h0:lN a b≠0->Q 0 (some (lN a b))) (h1:lN a b=0->Q (vN a b:Int) none):fw a b Q:=by
 refine gX (n:=if gJ a a.length≠0 then 0 else if gJ b b.length≠0 then 1 else 2) (λi=>(i:Int)) (λy=>y) 0 (λi=>om) rfl ?_ ?_
 ·intro i next hi hn
  have hlt:(i:Int)<([a,b].length:Int):=by
   have:i<2:=by split at hi<;>(try split at hi)<;>omega
   simp;omega
  refine condT (λ_=>⟨⟨by omega,hlt⟩,dq ?_⟩) (λhc=>absurd hlt hc)
  have hz:gJ (at' [a,b] (i:Int)) ((at' [a,b] (i:Int)).length:Int)=0:=by
   split at hi
   ·omega
   ·rename_i ha
    split at hi
    ·obtain rfl:i=0:=om
     exact Classical.not_not.1 ha
    ·rename_i hb
     obtain rfl | rfl:i=0\/i=1:=om
     ·exact Classical.not_not.1 ha
     ·exact Classical.not_not.1 hb
  rw[hz]
  exact cx (λhb=>by cases hb) (λ_=>⟨by unfold rng;simp at hlt;omega,by simpa using hn⟩)
 ·intro next
  by_cases ha:gJ a a.length≠0
  ·rw[if_pos ha]
   have e:lN a b=gJ a a.length:=by unfold lN;rw[if_pos ha]
   refine condT (λ_=>⟨⟨by omega,by simp⟩,dq ?_⟩) (λhc=>absurd (by simp) hc)
   show ae (Option.isSome (jO (gJ a a.length))) _ _
   rw[gD ha]
   refine cx (λ_=>?_) (λhb=>by cases hb)
   have:=h0 (by rw[e];exact ha)
   rw[e] at this
   show Q 0 (jO (gJ a a.length))
   rw[gD ha]
   exact this
  ·rw[if_neg ha]
   by_cases hb:gJ b b.length≠0
   ·rw[if_pos hb]
    have e:lN a b=gJ b b.length:=by unfold lN;rw[if_neg ha,if_pos hb]
    refine condT (λ_=>⟨⟨by omega,by simp⟩,dq ?_⟩) (λhc=>absurd (by simp) hc)
    show ae (Option.isSome (jO (gJ b b.length))) _ _
    rw[gD hb]
    refine cx (λ_=>?_) (λhb=>by cases hb)
    have:=h0 (by rw[e];exact hb)
    rw[e] at this
    show Q 0 (jO (gJ b b.length))
    rw[gD hb]
    exact this
   ·rw[if_neg hb]
    refine condT (λhc=>absurd hc (by simp)) (λ_=>gE (λhne=>?_) (λhl=>?_))
    ·have e:lN a b=11:=by unfold lN;rw[if_neg ha,if_neg hb,if_pos om]
     have:=h0 (by rw[e];decide)
     rwa[e] at this
    ·have oa:=jh (Classical.not_not.1 ha)
     have ob:=jh (Classical.not_not.1 hb)
     have hl':a.length=b.length:=om
     have hle:=oa.le
     refine tc ob ?_
     have hval:∀k,k<a.length->(0<=at' a (k:Int)/\at' a (k:Int)<((o7 b).length:Int))/\at' (o7 b) (at' a (k:Int))=(dv b (atN a k):Int):=λk hk=>by
      have h3:=oa.atN_lt hk
      rw[h3.1,my,qK om]
      exact⟨by omega,rfl⟩
     refine gX (n:=a.length) (λi=>((pw (dv b) (atN a) i:Int),(i:Int))) (λy=>y.2) 0 (λi=>by dsimp only;omega) rfl ?_ ?_
     ·intro i next2 hi hn2
      refine condT (λ_=>⟨⟨by omega,by omega⟩,⟨by omega,by omega,by omega⟩,?_⟩) (λhc=>absurd (show(i:Int)<a.length by omega) hc)
      refine gX (n:=i) (λj=>(((pw (dv b) (atN a) i+sm j (λj=>ind (dv b (atN a i)<dv b (atN a j))):Nat):Int),(j:Int))) (λy=>y.2) 0 (λj=>by dsimp only;omega) (by simp[sm]) ?_ ?_
      ·intro j next3 hj hn3
       have c1:=rT (dv b) (atN a) a.length i hle om
       have c2:=rU (dv b) (atN a) i (j+1) om
       have hsl:=qu (a:=a) (k:=i) om
       try dsimp only
       rw[hsl,t3 om hj]
       have v1:=hval i hi
       have v2:=hval j om
       refine condT (λ_=>⟨⟨by omega,by omega⟩,v2.1,v1.1,?_⟩) (λhc=>absurd (show(j:Int)<i by omega) hc)
       rw[v1.2,v2.2]
       have hs:sm (j+1) (λj=>ind (dv b (atN a i)<dv b (atN a j)))=sm j (λj=>ind (dv b (atN a i)<dv b (atN a j)))+ind (dv b (atN a i)<dv b (atN a j)):=rfl
       rw[hs] at hn3 c2
       refine condT (λhc=>?_) (λhc=>?_)
       ·rw[uB om] at hn3 c2
        refine⟨by unfold rng;omega,by unfold rng;omega,?_⟩
        have e:(((pw (dv b) (atN a) i+(sm j (λj=>ind (dv b (atN a i)<dv b (atN a j)))+1):Nat):Int),((j+1:Nat):Int))=(((pw (dv b) (atN a) i+sm j (λj=>ind (dv b (atN a i)<dv b (atN a j))):Nat):Int)+1,(j:Int)+1):=by
         refine Prod.ext ?_ ?_<;>simp only[]<;>omega
        rw[<-e]
        exact hn3
       ·rw[tz om] at hn3
        exact⟨by unfold rng;omega,by simpa using hn3⟩
      ·intro next3
       have hsl:=qu (a:=a) (k:=i) om
       try dsimp only
       rw[hsl]
       exact condT (λhc=>om) (λ_=>⟨by unfold rng;omega,by simpa[pw,sm] using hn2⟩)
     ·intro next2
      refine condT (λhc=>by first | omega | (dsimp only at hc;omega)) (λ_=>?_)
      try dsimp only
      rw[tE oa]
      exact h1 (rS.2 ⟨oa,ob,hl'⟩)
end
end Go.Gg
namespace Go.Gg
section
variable {f:GFormula}
def iP (f:GFormula):Nat->Int->List Int×List Bool->List Int×List Bool
 | 0,_,s=>s
 | fu+1,arg,s=>if at' s.2 arg=true then s else if arg<f.Vars then (s.1++[arg],set' s.2 arg true) else (at' f.Nodes (arg-f.Vars)).Args.foldl (λs x=>iP f fu x s) (s.1,set' s.2 arg true)
structure VI (f:GFormula) (s:List Int×List Bool):Prop where
 len:(s.2.length:Int)=f.Vars+f.Nodes.length
 nd:s.1.Nodup
 mem:∀v,v∈s.1↔(0<=v/\v<f.Vars)/\at' s.2 v=true
theorem ru {l:List Int} {n:Int} (h:l.Nodup) (hm:∀v∈l,0<=v/\v<n):(l.length:Int)<=max n 0:=by
 have h1:=j7 n.toNat (l.map Int.toNat) (by
  rw[List.Nodup,List.pairwise_map]
  exact List.Pairwise.imp_of_mem (λ{a b} ha hb hab he=>hab (by have:=hm a ha;have:=hm b hb;omega)) h) (λx hx=>by
  obtain⟨v,hv,rfl⟩:=List.mem_map.1 hx
  have:=hm v hv
  omega)
 rw[List.length_map] at h1
 omega
theorem VI.few (g:FG f) {s:List Int×List Bool} (h:VI f s):s.1.length<=24:=by
 have:=ru h.nd (n:=f.Vars) (λv hv=>((h.mem v).1 hv).1)
 have:=g.v24
 have:=g.v0
 omega
theorem qn (g:FG f):∀(fu:Nat) (arg:Int) (s:List Int×List Bool) (Q:List Int->List Bool->Prop),0<=arg->arg<f.Vars+f.Nodes.length->arg<fu->VI f s->(VI f (iP f fu arg s)->Q (iP f fu arg s).1 (iP f fu arg s).2)->
  bJ fu arg f.Vars f.Nodes f.Top s.1 s.2 Q
 | 0,_,_,_,h0,_,h2,_,_=>om
 | fu+1,arg,s,Q,h0,h1,h2,hv,hQ=>by
  have hlen:=hv.len
  have hfew:=hv.few g
  have hv0:=g.v0
  have hv24:=g.v24
  rw[bJ]
  refine⟨⟨h0,by omega⟩,cx (λhs=>?_) (λhs=>⟨⟨h0,by omega⟩,condT (λhc=>?_) (λhc=>?_)⟩)⟩
  ·rw[iP,if_pos hs] at hQ
   exact hQ hv
  ·have hs':¬at' s.2 arg=true:=by rw[hs];simp
   rw[iP,if_neg hs',if_pos hc] at hQ
   refine⟨by rw[List.length_append,List.length_singleton];omega,hQ ⟨by rw[cg];exact hlen,?_,λv=>?_⟩⟩
   ·refine List.nodup_append.2 ⟨hv.nd,by simp,λa ha b hb he=>?_⟩
    rw[List.mem_singleton] at hb
    subst hb
    subst he
    exact hs' ((hv.mem a).1 ha).2
   ·rw[List.mem_append,List.mem_singleton,hv.mem v]
    constructor
    ·rintro(⟨h5,h6⟩ | rfl)
     ·refine⟨h5,?_⟩
      rw[da ⟨h0,by omega⟩ h5.1]
      split
      ·rfl
      ·exact h6
     ·exact⟨⟨h0,hc⟩,by rw[da ⟨h0,by omega⟩ h0,if_pos rfl]⟩
    ·rintro⟨h5,h6⟩
     rw[da ⟨h0,by omega⟩ h5.1] at h6
     split at h6
     ·rename_i he;exact .inr he
     ·exact .inl ⟨h5,h6⟩
  ·have hs':¬at' s.2 arg=true:=by rw[hs];simp
   rw[iP,if_neg hs',if_neg hc] at hQ
   obtain⟨i,hi⟩:∃i:Nat,arg-f.Vars=i:=⟨(arg-f.Vars).toNat,by omega⟩
   have hil:i<f.Nodes.length:=om
   rw[hi] at hQ ⊢
   have hargs:=iB g hil
   have h16:=(fN (g.node i hil))
   refine⟨by unfold rng;have:=g.n128;omega,⟨by omega,by omega⟩,?_⟩
   generalize hA:(at' f.Nodes (i:Int)).Args=A at hQ hargs ⊢
   have hA16:A.length<=16:=by rw[<-hA];exact h16.len
   have hv1:VI f (s.1,set' s.2 arg true):=by
    refine⟨by rw[cg];exact hlen,hv.nd,λv=>?_⟩
    rw[hv.mem v]
    constructor
    ·rintro⟨h5,h6⟩
     refine⟨h5,?_⟩
     rw[da ⟨h0,by omega⟩ h5.1]
     split
     ·rfl
     ·exact h6
    ·rintro⟨h5,h6⟩
     rw[da ⟨h0,by omega⟩ h5.1,if_neg om] at h6
     exact⟨h5,h6⟩
   refine fI (n:=A.length) (λj y=>y=((j:Int),((A.take j).foldl (λs x=>iP f fu x s) (s.1,set' s.2 arg true)).1,((A.take j).foldl (λs x=>iP f fu x s) (s.1,set' s.2 arg true)).2)/\VI f ((A.take j).foldl (λs x=>iP f fu x s) (s.1,set' s.2 arg true)))
    (λy=>y.1) 0 (λj y hy=>by rw[hy.1];omega) ⟨rfl,hv1⟩ ?_ ?_
   ·rintro j _ next hj ⟨rfl,hI⟩ hn
    have ha:=hargs _ (lB hj)
    have e:(A.take (j+1)).foldl (λs x=>iP f fu x s) (s.1,set' s.2 arg true)=iP f fu (at' A (j:Int)) ((A.take j).foldl (λs x=>iP f fu x s) (s.1,set' s.2 arg true)):=by
     rw[gl hj,List.foldl_append]
     rfl
    refine condT (λ_=>⟨⟨by omega,by omega⟩,qn g fu _ _ _ ha.1 om om hI (λhV=>⟨?_,by unfold rng;omega,hn _ ⟨?_,by rw[e];exact hV⟩⟩)⟩) (λhc=>absurd (show(j:Int)<A.length by omega) hc)
    ·have h3:=hV.len
     have h4:=hI.len
     omega
    ·rw[e]
     rfl
   ·rintro _ next ⟨rfl,hI⟩
    refine condT (λhc=>by first | omega | (dsimp only at hc;omega)) (λ_=>?_)
    have e:A.take A.length=A:=List.take_of_length_le (Nat.le_refl _)
    rw[e] at hI ⊢
    exact hQ hI
def c9 (f:GFormula):List Int×List Bool:=iP f (f.Vars+(f.Nodes.length:Int)).toNat f.Top ([],bG (f.Vars+(f.Nodes.length:Int)) false)
def dU (f:GFormula):List Int:=(c9 f).1++(fx f.Vars.toNat).filter λv=>!(at' (c9 f).2 v)
theorem jg {n v:Int}:at' (bG n false) v=false:=by
 unfold at' bG
 rw[List.getD_eq_getElem?_getD,List.getElem?_replicate]
 split<;>rfl
theorem VI0 (g:FG f):VI f ([],bG (f.Vars+(f.Nodes.length:Int)) false):=
 ⟨by have:=g.v0;rw[eV om],List.nodup_nil,λv=>by rw[jg];simp⟩
theorem qX (g:FG f) {Q:List Int->List Bool->Prop} (hQ:VI f (c9 f)->Q (dU f) (c9 f).2):dn f Q:=by
 have hv0:=g.v0
 have hv24:=g.v24
 have hn:=g.n128
 have ht0:=g.top0
 have ht:=g.top
 refine⟨by unfold rng;omega,⟨by omega,by omega,by omega,by omega⟩,(f.Vars+(f.Nodes.length:Int)).toNat,qn g _ f.Top ([],bG (f.Vars+(f.Nodes.length:Int)) false) _ ht0 ht om (VI0 g) (λhV=>?_)⟩
 have hlen:=hV.len
 have hfew:=hV.few g
 refine⟨by have:=(VI0 g).len;dsimp only at this;omega,?_⟩
 obtain⟨n,hvn⟩:∃n:Nat,f.Vars=n:=⟨f.Vars.toNat,by omega⟩
 refine gX (n:=n) (λi=>((i:Int),(c9 f).1++(fx i).filter λv=>!(at' (c9 f).2 v))) (λy=>y.1) 0 (λi=>by first | omega | (dsimp only;omega)) (by simp[fx];rfl) ?_ ?_
 ·intro i next hi hn1
  have hf:=List.length_filter_le (λv=>!(at' (c9 f).2 v)) (fx i)
  rw[ep] at hf
  have hl2:(c9 f).1.length<=24:=hfew
  have hl3:((c9 f).2.length:Int)=f.Vars+f.Nodes.length:=hlen
  rw[rE,List.filter_append] at hn1
  refine condT (λ_=>⟨⟨by omega,by show(i:Int)<((c9 f).2.length:Int);omega⟩,cx (λhb=>?_) (λhb=>?_)⟩) (λhc=>absurd om hc)
  ·have hb':(!at' (c9 f).2 (i:Int))=true:=hb
   rw[List.filter_cons_of_pos (by exact hb'),List.filter_nil,<-List.append_assoc] at hn1
   refine⟨by simp only[List.length_append,List.length_singleton];omega,by unfold rng;omega,?_⟩
   simpa using hn1
  ·have hb':¬(!at' (c9 f).2 (i:Int))=true:=by
    intro hc
    have hc2:(!at' (c9 f).2 (i:Int))=false:=hb
    rw[hc2] at hc
    cases hc
   rw[List.filter_cons_of_neg (by exact hb'),List.filter_nil,List.append_nil] at hn1
   exact⟨by unfold rng;omega,by simpa using hn1⟩
 ·intro next
  refine condT (λhc=>by first | omega | (dsimp only at hc;omega)) (λ_=>?_)
  have:=hQ hV
  unfold dU at this
  rw[hvn,Int.toNat_natCast] at this
  exact this
theorem ij (h:VI f (c9 f)) {v:Int}:v∈dU f↔0<=v/\v<f.Vars:=by
 unfold dU
 rw[List.mem_append,List.mem_filter,gz,h.mem v]
 cases hb:at' (c9 f).2 v with
 | true=>simp
 | false=>simp;omega
theorem tF (h:VI f (c9 f)):(dU f).Nodup:=by
 refine List.nodup_append.2 ⟨h.nd,?_,λa ha b hb he=>?_⟩
 ·refine List.Nodup.sublist List.filter_sublist ?_
  unfold fx
  rw[List.Nodup,List.pairwise_map]
  exact List.Pairwise.imp (λh hc=>h om) (List.nodup_range (n:=f.Vars.toNat))
 ·subst he
  have h1:=((h.mem a).1 ha).2
  have h2:=(List.mem_filter.1 hb).2
  rw[h1] at h2
  cases h2
theorem qO {n:Nat}:(fx n).Nodup:=by
 unfold fx
 rw[List.Nodup,List.pairwise_map]
 exact List.Pairwise.imp (λh hc=>h om) (List.nodup_range (n:=n))
theorem mQ (h:VI f (c9 f)):(dU f).Perm (fx f.Vars.toNat):=
 (List.perm_ext_iff_of_nodup (tF h) qO).2 (λv=>by rw[ij h,gz];omega)
theorem oE (ht:rng f.Top) {Q:List Int->Option Int->Prop} (h0:kY f≠0->Q [] (some (kY f))) (h1:FG f->VI f (c9 f)->Q (dU f) none):dp f Q:=by
 refine eE ht (tB (λhc=>by rw[gD hc];exact h0 hc) (λhz=>?_))
 have g:=jQ.1 hz
 exact qX g (h1 g)
end
end Go.Gg
namespace Go.Gg
def rQ:GFormula:=⟨3,[⟨3,0,[0,2,1]⟩,⟨2,0,[2,3]⟩],4⟩
theorem pq:kY rQ=0:=by decide +kernel
theorem qd:dU rQ=[2,0,1]:=by decide +kernel
theorem rO:vN [0,1,2] [2,1,0]=3:=by decide +kernel
theorem rP:lN [0,1,2] [2,1,0]=0:=by decide +kernel
end Go.Gg
namespace Go.Gg
def qs (a:Int) (b:Int) (n:Int) (data:List Int) (Q:List Int->Prop):Prop:=
 aU (σ:=Int×(List Int)) (0,data) λ⟨i,data1⟩ next1=>
  ae (decide (i<n))
   (rng (a+i)/\
   rng (b+i)/\
   rng (b+i)/\
   ((0:Int)<=(b+i)/\(b+i)<(data1.length:Int))/\
   rng (a+i)/\
   ((0:Int)<=(a+i)/\(a+i)<(data1.length:Int))/\
   ((0:Int)<=(a+i)/\(a+i)<(data1.length:Int))/\
   ((0:Int)<=(b+i)/\(b+i)<(data1.length:Int))/\
   rng (i+1)/\
   next1 ((i+1),(set' (set' data1 (a+i) (at' data1 (b+i))) (b+i) (at' data1 (a+i)))))
   (Q data1)
def wd (a:Int) (m:Int) (b:Int) (data:List Int) (Q:List Int->Prop):Prop:=
 rng (m-a)/\
 rng (b-m)/\
 aU (σ:=Int×Int×(List Int)) ((m-a),(b-m),data) λ⟨i,j,data1⟩ next1=>
  ae (i != j)
   (ae (decide (j<i))
    (rng (m-i)/\
    qs (m-i) m j data1 λdata2=>
    data2.length=data1.length/\
    rng (i-j)/\
    next1 ((i-j),j,data2))
    (rng (m-i)/\
    rng (m+j)/\
    rng ((m+j)-i)/\
    qs (m-i) ((m+j)-i) i data1 λdata3=>
    data3.length=data1.length/\
    rng (j-i)/\
    next1 (i,(j-i),data3)))
   (rng (m-i)/\
   qs (m-i) m i data1 λdata4=>
   data4.length=data1.length/\
   Q data4)
def jr (C:Int->Int->(Int->Prop)->Prop):Nat->Int->Int->Int->(List Int)->(List Int->Prop)->Prop
 | 0,_,_,_,_,_=>False
 | fu+1,a,m,b,data,Q=>
  rng (m-a)/\
  ae ((m-a) == 1)
   (aU (σ:=Int×Int) (m,b) λ⟨i,j⟩ next1=>
    ae (decide (i<j))
     (rng (i+j)/\
     fp (IntKind.wrap .i64 ((IntKind.wrap .u64 (i+j)) / 2^(Int.toNat 1))) λh1=>
     ((0:Int)<=h1/\h1<(data.length:Int))/\
     ((0:Int)<=a/\a<(data.length:Int))/\
     ∃r,(C (at' data h1) (at' data a) λy1=>y1=r)/\
     ae (decide (r<0))
      (rng (h1+1)/\
      next1 ((h1+1),j))
      (next1 (i,h1)))
     (aU (σ:=Int×(List Int)) (a,data) λ⟨k3,data1⟩ next2=>
      rng (i-1)/\
      ae (decide (k3<(i-1)))
       (rng (k3+1)/\
       rng (k3+1)/\
       ((0:Int)<=(k3+1)/\(k3+1)<(data1.length:Int))/\
       ((0:Int)<=k3/\k3<(data1.length:Int))/\
       ((0:Int)<=k3/\k3<(data1.length:Int))/\
       ((0:Int)<=(k3+1)/\(k3+1)<(data1.length:Int))/\
       rng (k3+1)/\
       next2 ((k3+1),(set' (set' data1 k3 (at' data1 (k3+1))) (k3+1) (at' data1 k3))))
       (Q data1)))
   (rng (b-m)/\
   ae ((b-m) == 1)
    (aU (σ:=Int×Int) (a,m) λ⟨i1,j1⟩ next3=>
     ae (decide (i1<j1))
      (rng (i1+j1)/\
      fp (IntKind.wrap .i64 ((IntKind.wrap .u64 (i1+j1)) / 2^(Int.toNat 1))) λh2=>
      ((0:Int)<=m/\m<(data.length:Int))/\
      ((0:Int)<=h2/\h2<(data.length:Int))/\
      ∃r1,(C (at' data m) (at' data h2) λy2=>y2=r1)/\
      ae (!(decide (r1<0)))
       (rng (h2+1)/\
       next3 ((h2+1),j1))
       (next3 (i1,h2)))
      (aU (σ:=Int×(List Int)) (m,data) λ⟨k4,data2⟩ next4=>
       ae (decide (i1<k4))
        (rng (k4-1)/\
        rng (k4-1)/\
        ((0:Int)<=(k4-1)/\(k4-1)<(data2.length:Int))/\
        ((0:Int)<=k4/\k4<(data2.length:Int))/\
        ((0:Int)<=k4/\k4<(data2.length:Int))/\
        ((0:Int)<=(k4-1)/\(k4-1)<(data2.length:Int))/\
        rng (k4-1)/\
        next4 ((k4-1),(set' (set' data2 k4 (at' data2 (k4-1))) (k4-1) (at' data2 k4))))
        (Q data2)))
    (rng (a+b)/\
    fp (IntKind.wrap .i64 ((IntKind.wrap .u64 (a+b)) / 2^(Int.toNat 1))) λmid=>
    rng (mid+m)/\
    b7 (α:=Int×Int) (λnext11=>
     ae (decide (mid<m))
      (rng ((mid+m)-b)/\
      next11 (((mid+m)-b),mid))
      (next11 (a,m)))
     λ⟨start,r2⟩=>
     rng ((mid+m)-1)/\
     aU (σ:=Int×Int) (start,r2) λ⟨start1,r3⟩ next5=>
      ae (decide (start1<r3))
       (rng (start1+r3)/\
       fp (IntKind.wrap .i64 ((IntKind.wrap .u64 (start1+r3)) / 2^(Int.toNat 1))) λc=>
       rng (((mid+m)-1)-c)/\
       ((0:Int)<=(((mid+m)-1)-c)/\(((mid+m)-1)-c)<(data.length:Int))/\
       ((0:Int)<=c/\c<(data.length:Int))/\
       ∃r4,(C (at' data (((mid+m)-1)-c)) (at' data c) λy3=>y3=r4)/\
       ae (!(decide (r4<0)))
        (rng (c+1)/\
        next5 ((c+1),r3))
        (next5 (start1,c)))
       (rng ((mid+m)-start1)/\
       b7 (α:=(List Int)) (λnext9=>
        b7 (α:=Bool) (λnext10=>
         ae (decide (start1<m))
          (next10 (decide (m<((mid+m)-start1))))
          (next10 false))
         λx2=>
         ae x2
          (wd start1 m ((mid+m)-start1) data λdata7=>
          data7.length=data.length/\
          next9 data7)
          (next9 data))
        λdata3=>
        b7 (α:=(List Int)) (λnext7=>
         b7 (α:=Bool) (λnext8=>
          ae (decide (a<start1))
           (next8 (decide (start1<mid)))
           (next8 false))
          λx1=>
          ae x1
           (jr C fu a start1 mid data3 λdata6=>
           data6.length=data3.length/\
           next7 data6)
           (next7 data3))
         λdata4=>
         b7 (α:=Bool) (λnext6=>
          ae (decide (mid<((mid+m)-start1)))
           (next6 (decide (((mid+m)-start1)<b)))
           (next6 false))
          λx=>
          ae x
           (jr C fu mid ((mid+m)-start1) b data4 λdata5=>
           data5.length=data4.length/\
           Q data5)
           (Q data4))))
def l_ (C:Int->Int->(Int->Prop)->Prop) (n:Int) (data:List Int) (Q:List Int->Prop):Prop:=
 aU (σ:=Int×Int×(List Int)) (0,20,data) λ⟨a,b,data1⟩ next1=>
  ae (decide (b<=n))
   (kT C a b data1 λdata2=>
   data2.length=data1.length/\
   rng (b+20)/\
   next1 (b,(b+20),data2))
   (kT C a n data1 λdata3=>
   data3.length=data1.length/\
   aU (σ:=Int×(List Int)) (20,data3) λ⟨blockSize,data4⟩ next2=>
    ae (decide (blockSize<n))
     (rng (2*blockSize)/\
     aU (σ:=Int×Int×(List Int)) (0,(2*blockSize),data4) λ⟨a1,b1,data5⟩ next3=>
      ae (decide (b1<=n))
       (rng (a1+blockSize)/\
       ∃fu,jr C fu a1 (a1+blockSize) b1 data5 λdata6=>
       data6.length=data5.length/\
       rng (2*blockSize)/\
       rng (b1+(2*blockSize))/\
       next3 (b1,(b1+(2*blockSize)),data6))
       (rng (a1+blockSize)/\
       ae (decide ((a1+blockSize)<n))
        (∃fu,jr C fu a1 (a1+blockSize) n data5 λdata7=>
        data7.length=data5.length/\
        rng (blockSize*2)/\
        next2 ((blockSize*2),data7))
        (rng (blockSize*2)/\
        next2 ((blockSize*2),data5))))
     (Q data4))
def pN (l:List Int) (i j:Int):List Int:=set' (set' l i (at' l j)) j (at' l i)
theorem l9 {l:List Int} {i j:Int}:(pN l i j).length=l.length:=by unfold pN;rw[cg,cg]
theorem kA {l:List Int} {i j:Int} (hi:0<=i/\i<l.length) (hj:0<=j/\j<l.length):(pN l i j).Perm l:=by
 obtain⟨a,rfl⟩:∃a:Nat,i=a:=⟨i.toNat,by omega⟩
 obtain⟨b,rfl⟩:∃b:Nat,j=b:=⟨j.toNat,by omega⟩
 unfold pN
 rw[cX,cX,jA om,jA om]
 exact List.set_set_perm om om
def swD (a b:Int):Nat->List Int->List Int
 | 0,d=>d
 | i+1,d=>pN (swD a b i d) (a+(i:Int)) (b+(i:Int))
theorem fB {a b:Int} {d:List Int}:∀i,(swD a b i d).length=d.length
 | 0=>rfl
 | i+1=>by rw[swD,l9,fB i]
theorem jY {a b:Int} {d:List Int} {n:Nat} (ha:0<=a/\a+n<=d.length) (hb:0<=b/\b+n<=d.length):∀i,i<=n->(swD a b i d).Perm d
 | 0,_=>List.Perm.refl _
 | i+1,h=>by
  have hl:=fB (a:=a) (b:=b) (d:=d) i
  exact(kA om om).trans (jY ha hb i om)
theorem nX {a b:Int} {n:Nat} {d:List Int} {Q:List Int->Prop} (ha:0<=a/\a+n<=d.length) (hb:0<=b/\b+n<=d.length) (hl:d.length<=1000) (hQ:Q (swD a b n d)):qs a b (n:Int) d Q:=by
 refine gX (n:=n) (λi=>((i:Int),swD a b i d)) (λy=>y.1) 0 (λi=>by simp) rfl (λi next hi hn=>?_) (λnext=>?_)
 ·have h1:=fB (a:=a) (b:=b) (d:=d) i
  refine condT (λ_=>⟨by unfold rng;omega,by unfold rng;omega,by unfold rng;omega,by omega,by unfold rng;omega,by omega,by omega,by omega,by unfold rng;omega,hn⟩) (λhc=>absurd (show(i:Int)<(n:Int) by omega) hc)
 ·exact condT (λhc=>absurd hc om) (λ_=>hQ)
def n3 (m:Int):Nat->Nat->Nat->List Int->List Int
 | 0,_,_,d=>d
 | k+1,i,j,d=>if i=j then swD (m-(i:Int)) m i d else if j<i then n3 m k (i-j) j (swD (m-(i:Int)) m j d) else n3 m k i (j-i) (swD (m-(i:Int)) (m+(j:Int)-(i:Int)) i d)
theorem je {m:Int}:∀(k i j:Nat) (d:List Int),(i:Int)<=m->m+(j:Int)<=d.length->(n3 m k i j d).Perm d
 | 0,_,_,_,_,_=>List.Perm.refl _
 | k+1,i,j,d,hi,hj=>by
  rw[n3]
  split
  ·exact jY (n:=i) om om i (Nat.le_refl _)
  ·split
   ·exact(je k (i-j) j _ om (by rw[fB];omega)).trans (jY (n:=j) om om j (Nat.le_refl _))
   ·exact(je k i (j-i) _ hi (by rw[fB];omega)).trans (jY (n:=i) om om i (Nat.le_refl _))
theorem vp {a m b:Nat} {d:List Int} {Q:List Int->Prop} (h1:a<m) (h2:m<b) (h3:b<=d.length) (hl:d.length<=1000) (hQ:Q (n3 (m:Int) (b-a) (m-a) (b-m) d)):wd (a:Int) (m:Int) (b:Int) d Q:=by
 refine⟨by unfold rng;omega,by unfold rng;omega,?_⟩
 refine⟨λy=>∃k i j:Nat,(0<i/\0<j/\i<=m/\m+j<=d.length/\i+j<=k)/\y.1=(i:Int)/\y.2.1=(j:Int)/\y.2.2.length=d.length/\n3 (m:Int) k i j y.2.2=n3 (m:Int) (b-a) (m-a) (b-m) d,λy=>(y.1+y.2.1).toNat,
  ⟨b-a,m-a,b-m,⟨by omega,by omega,by omega,by omega,by omega⟩,by dsimp only;omega,by dsimp only;omega,rfl,rfl⟩,?_⟩
 rintro⟨x,y,e⟩ ⟨k,i,j,⟨p1,p2,p3,p4,p5⟩,hx,hy,he,hR⟩
 dsimp only at hx hy he hR
 subst hx hy
 obtain⟨k,rfl⟩:∃k',k=k'+1:=⟨k-1,by omega⟩
 rw[n3] at hR
 refine gE (λhne=>?_) (λhij=>?_)
 ·have hne':¬i=j:=λhc=>hne (by rw[hc])
  rw[if_neg hne'] at hR
  refine condT (λhc=>?_) (λhc=>?_)
  ·rw[if_pos (show j<i by omega)] at hR
   refine⟨by unfold rng;omega,nX om om om ⟨fB _,by unfold rng;omega,⟨k,i-j,j,⟨by omega,p2,by omega,p4,by omega⟩,by dsimp only;omega,rfl,?_,hR⟩,?_⟩⟩
   ·dsimp only;rw[fB];exact he
   ·dsimp only;omega
  ·rw[if_neg (show ¬j<i by omega)] at hR
   refine⟨by unfold rng;omega,by unfold rng;omega,by unfold rng;omega,nX om om om ⟨fB _,by unfold rng;omega,⟨k,i,j-i,⟨p1,by omega,p3,by omega,by omega⟩,rfl,by dsimp only;omega,?_,hR⟩,?_⟩⟩
   ·dsimp only;rw[fB];exact he
   ·dsimp only;omega
 ·have hij':i=j:=om
  rw[if_pos hij'] at hR
  refine⟨by unfold rng;omega,nX om om om ⟨fB _,?_⟩⟩
  rw[hR]
  exact hQ
def bsD (test:Nat->Bool):Nat->Nat->Nat->Nat
 | 0,i,_=>i
 | k+1,i,j=>if i<j then (if test ((i+j) / 2) then bsD test k ((i+j) / 2+1) j else bsD test k i ((i+j) / 2)) else i
theorem mR {test:Nat->Bool}:∀k i j,i<=j->i<=bsD test k i j/\bsD test k i j<=j
 | 0,i,j,h=>⟨Nat.le_refl _,h⟩
 | k+1,i,j,h=>by
  rw[bsD]
  split
  ·split
   ·have:=mR (test:=test) k ((i+j) / 2+1) j om;omega
   ·have:=mR (test:=test) k i ((i+j) / 2) om;omega
  ·omega
theorem lW {x y:Nat} (h:x+y<=100000):IntKind.wrap .i64 ((IntKind.wrap .u64 ((x:Int)+(y:Int))) / 2^(Int.toNat 1))=(((x+y) / 2:Nat):Int):=by
 have h1:IntKind.wrap .u64 ((x:Int)+(y:Int))=((x+y:Nat):Int):=by
  unfold IntKind.wrap
  simp[IntKind.signed,IntKind.bits]
  omega
 rw[h1]
 have h2:((x+y:Nat):Int) / 2^(Int.toNat 1)=(((x+y) / 2:Nat):Int):=by simp
 rw[h2]
 exact go (by unfold rng;omega)
theorem bsW {test:Nat->Bool} {x y:Nat} (hxy:x<=y) {body:Int×Int->(Int×Int->Prop)->Prop} (hs:∀(i j:Nat) (next:Int×Int->Prop),x<=i->i<j->j<=y->(test ((i+j) / 2)=true->next ((((i+j) / 2:Nat):Int)+1,(j:Int)))->(test ((i+j) / 2)=false->next ((i:Int),(((i+j) / 2:Nat):Int)))->body ((i:Int),(j:Int)) next)
  (he:∀next:Int×Int->Prop,body (((bsD test (y-x) x y:Nat):Int),((bsD test (y-x) x y:Nat):Int)) next):aU ((x:Int),(y:Int)) body:=by
 refine⟨λz=>∃k i j:Nat,(x<=i/\i<=j/\j<=y/\j-i<=k)/\z=((i:Int),(j:Int))/\bsD test k i j=bsD test (y-x) x y,λz=>(z.2-z.1).toNat,⟨y-x,x,y,⟨Nat.le_refl _,hxy,Nat.le_refl _,Nat.le_refl _⟩,rfl,rfl⟩,?_⟩
 rintro _ ⟨k,i,j,⟨h1,h2,h3,h4⟩,rfl,hR⟩
 rcases Nat.lt_or_ge i j with hc | hc
 ·obtain⟨k,rfl⟩:∃k',k=k'+1:=⟨k-1,by omega⟩
  rw[bsD,if_pos hc] at hR
  exact hs i j _ h1 hc h3 (λht=>⟨⟨k,(i+j) / 2+1,j,⟨by omega,by omega,h3,by omega⟩,rfl,by rw[ht] at hR;exact hR⟩,by dsimp only;omega⟩) (λht=>⟨⟨k,i,(i+j) / 2,⟨h1,by omega,by omega,by omega⟩,rfl,by rw[ht] at hR;exact hR⟩,by dsimp only;omega⟩)
 ·obtain rfl:i=j:=om
  have:bsD test k i i=i:=by
   cases k with
   | zero=>rfl
   | succ k=>rw[bsD,if_neg om]
  rw[this] at hR
  rw[<-hR] at he
  exact he _
def upD (a:Int):Nat->List Int->List Int
 | 0,d=>d
 | t+1,d=>pN (upD a t d) (a+(t:Int)) (a+(t:Int)+1)
theorem nR {a:Int} {d:List Int}:∀t,(upD a t d).length=d.length
 | 0=>rfl
 | t+1=>by rw[upD,l9,nR t]
theorem oO {a:Int} {d:List Int} (h0:0<=a):∀t:Nat,a+t<d.length->(upD a t d).Perm d
 | 0,_=>List.Perm.refl _
 | t+1,h=>by
  have hl:=nR (a:=a) (d:=d) t
  exact(kA om om).trans (oO h0 t om)
def dnD (m:Int):Nat->List Int->List Int
 | 0,d=>d
 | t+1,d=>pN (dnD m t d) (m-(t:Int)) (m-(t:Int)-1)
theorem ox {m:Int} {d:List Int}:∀t,(dnD m t d).length=d.length
 | 0=>rfl
 | t+1=>by rw[dnD,l9,ox t]
theorem pu {m:Int} {d:List Int} (h0:m<d.length):∀t:Nat,(t:Int)<=m->(dnD m t d).Perm d
 | 0,_=>List.Perm.refl _
 | t+1,h=>by
  have hl:=ox (m:=m) (d:=d) t
  exact(kA om om).trans (pu h0 t om)
def Fol (C:Int->Int->(Int->Prop)->Prop) (c:Int->Int->Int) (l:List Int):Prop:=∀x∈l,∀y∈l,∀K:Int->Prop,K (c x y)->C x y K
theorem Fol.perm {C:Int->Int->(Int->Prop)->Prop} {c:Int->Int->Int} {l r:List Int} (h:Fol C c l) (p:r.Perm l):Fol C c r:=λx hx y hy=>h x (p.mem_iff.1 hx) y (p.mem_iff.1 hy)
theorem lf {l:List Int} {i:Int} (h:0<=i/\i<l.length):at' l i∈l:=by
 obtain⟨a,rfl⟩:∃a:Nat,i=a:=⟨i.toNat,by omega⟩
 exact lB om
theorem nW (c:Int->Int->Int):∀(k a m b:Nat) (d:List Int),a<m->m<b->b<=d.length->d.length<=1000->b-a<=k->∃r:List Int,r.Perm d/\∀C,Fol C c d->∀Q:List Int->Prop,Q r->jr C k (a:Int) (m:Int) (b:Int) d Q
 | 0,a,m,b,d,h1,h2,_,_,h5=>om
 | k+1,a,m,b,d,h1,h2,h3,h4,h5=>by
  by_cases hA:m-a=1
  ·have hbd:=mR (test:=λh=>decide (c (at' d (h:Int)) (at' d (a:Int))<0)) (b-m) m b om
   generalize hi:bsD (λh=>decide (c (at' d (h:Int)) (at' d (a:Int))<0)) (b-m) m b=i at hbd
   refine⟨upD (a:Int) (i-1-a) d,oO om _ om,λC hC Q hQ=>?_⟩
   rw[jr]
   refine⟨by unfold rng;omega,cS (λ_=>?_) (λhc=>absurd (show(m:Int)-(a:Int)=1 by omega) hc)⟩
   refine bsW (x:=m) (y:=b) (test:=λh=>decide (c (at' d (h:Int)) (at' d (a:Int))<0)) om (λp q next q1 q2 q3 hA hA'=>condT (λ_=>⟨by unfold rng;omega,ga ?_⟩) (λhc=>absurd (show(p:Int)<(q:Int) by omega) hc)) (λnext=>condT (λhc=>absurd hc om) (λ_=>?_))
   ·rw[lW om]
    exact⟨by omega,by omega,c _ _,hC _ (lf om) _ (lf om) _ rfl,condT (λhr=>⟨by unfold rng;omega,hA (decide_eq_true hr)⟩) (λhr=>hA' (decide_eq_false hr))⟩
   rw[hi]
   refine gX (n:=i-1-a) (λt=>((a:Int)+(t:Int),upD (a:Int) t d)) (λy=>y.1) (a:Int) (λt=>by dsimp only;omega) (by simp[upD]) (λt next ht hn=>?_) (λnext=>?_)
   ·have hl:=nR (a:=(a:Int)) (d:=d) t
    refine⟨by unfold rng;omega,condT (λ_=>⟨by unfold rng;omega,by unfold rng;omega,by omega,by omega,by omega,by omega,by unfold rng;omega,?_⟩) (λhc=>absurd (show(a:Int)+(t:Int)<(i:Int)-1 by omega) hc)⟩
    have e:(a:Int)+((t+1:Nat):Int)=(a:Int)+(t:Int)+1:=om
    rw[e] at hn
    exact hn
   ·exact⟨by unfold rng;omega,condT (λhc=>absurd hc om) (λ_=>hQ)⟩
  by_cases hB:b-m=1
  ·have hbd:=mR (test:=λh=>!(decide (c (at' d (m:Int)) (at' d (h:Int))<0))) (m-a) a m om
   generalize hi:bsD (λh=>!(decide (c (at' d (m:Int)) (at' d (h:Int))<0))) (m-a) a m=i at hbd
   refine⟨dnD (m:Int) (m-i) d,pu om _ om,λC hC Q hQ=>?_⟩
   rw[jr]
   refine⟨by unfold rng;omega,cS (λhc=>absurd hc om) (λ_=>⟨by unfold rng;omega,cS (λ_=>?_) (λhc=>absurd (show(b:Int)-(m:Int)=1 by omega) hc)⟩)⟩
   refine bsW (x:=a) (y:=m) (test:=λh=>!(decide (c (at' d (m:Int)) (at' d (h:Int))<0))) om (λp q next q1 q2 q3 hA hA'=>condT (λ_=>⟨by unfold rng;omega,ga ?_⟩) (λhc=>absurd (show(p:Int)<(q:Int) by omega) hc)) (λnext=>condT (λhc=>absurd hc om) (λ_=>?_))
   ·rw[lW om]
    exact⟨by omega,by omega,c _ _,hC _ (lf om) _ (lf om) _ rfl,cx (λhr=>⟨by unfold rng;omega,hA hr⟩) hA'⟩
   rw[hi]
   refine⟨λy=>∃t:Nat,t<=m-i/\y=((m:Int)-(t:Int),dnD (m:Int) t d),λy=>y.1.toNat,⟨0,by omega,by simp[dnD]⟩,?_⟩
   rintro _ ⟨t,ht,rfl⟩
   have hl:=ox (m:=(m:Int)) (d:=d) t
   refine condT (λhc=>⟨by unfold rng;omega,by unfold rng;omega,by omega,by omega,by omega,by omega,by unfold rng;omega,⟨t+1,by omega,?_⟩,by dsimp only;omega⟩) (λhc=>?_)
   ·have e:(m:Int)-((t+1:Nat):Int)=(m:Int)-(t:Int)-1:=om
    rw[e];rfl
   ·obtain rfl:t=m-i:=om
    exact hQ
  obtain⟨mid,hmid⟩:∃x,x=(a+b) / 2:=⟨_,rfl⟩
  obtain⟨st,hst⟩:∃x,x=if mid<m then mid+m-b else a:=⟨_,rfl⟩
  obtain⟨r0,hr0⟩:∃x,x=if mid<m then mid else m:=⟨_,rfl⟩
  have hsr:st<=r0/\a<=st/\r0<=m/\r0<=mid/\mid+m<=st+b:=by
   by_cases hm:mid<m
   ·rw[if_pos hm] at hst hr0;omega
   ·rw[if_neg hm] at hst hr0;omega
  have hbd:=mR (test:=λh=>!(decide (c (at' d (((mid:Int)+(m:Int))-1-(h:Int))) (at' d (h:Int))<0))) (r0-st) st r0 hsr.1
  generalize hs:bsD (λh=>!(decide (c (at' d (((mid:Int)+(m:Int))-1-(h:Int))) (at' d (h:Int))<0))) (r0-st) st r0=s at hbd
  obtain⟨e,he⟩:∃x,x=mid+m-s:=⟨_,rfl⟩
  have hse:s<=m/\s<=mid/\e<=b/\mid<=e+(m-m)/\m<=e/\mid+m=e+s:=om
  obtain⟨d3,hd3⟩:∃x,x=if s<m/\m<e then n3 (m:Int) (e-s) (m-s) (e-m) d else d:=⟨_,rfl⟩
  have p3:d3.Perm d:=by
   rw[hd3]
   split
   ·exact je _ _ _ _ om om
   ·exact List.Perm.refl _
  have l3:d3.length=d.length:=p3.length_eq
  have h4:∃d4:List Int,d4.Perm d/\∀C,Fol C c d->∀Q:List Int->Prop,Q d4->ae (decide (a<s/\s<mid)) (jr C k (a:Int) (s:Int) (mid:Int) d3 (λx=>x.length=d3.length/\Q x)) (Q d3):=by
   by_cases hq:a<s/\s<mid
   ·obtain⟨r,pr,hr⟩:=nW c k a s mid d3 hq.1 hq.2 om om om
    exact⟨r,pr.trans p3,λC hC Q hQ=>condT (λ_=>hr C (hC.perm p3) _ ⟨pr.length_eq,hQ⟩) (λhc=>absurd hq hc)⟩
   ·exact⟨d3,p3,λC hC Q hQ=>condT (λhc=>absurd hc hq) (λ_=>hQ)⟩
  obtain⟨d4,p4,h4⟩:=h4
  have l4:d4.length=d.length:=p4.length_eq
  have h6:∃d5:List Int,d5.Perm d/\∀C,Fol C c d->∀Q:List Int->Prop,Q d5->ae (decide (mid<e/\e<b)) (jr C k (mid:Int) (e:Int) (b:Int) d4 (λx=>x.length=d4.length/\Q x)) (Q d4):=by
   by_cases hq:mid<e/\e<b
   ·obtain⟨r,pr,hr⟩:=nW c k mid e b d4 hq.1 hq.2 om om om
    exact⟨r,pr.trans p4,λC hC Q hQ=>condT (λ_=>hr C (hC.perm p4) _ ⟨pr.length_eq,hQ⟩) (λhc=>absurd hq hc)⟩
   ·exact⟨d4,p4,λC hC Q hQ=>condT (λhc=>absurd hc hq) (λ_=>hQ)⟩
  obtain⟨d5,p5,h6⟩:=h6
  refine⟨d5,p5,λC hC Q hQ=>?_⟩
  rw[jr]
  refine⟨by unfold rng;omega,cS (λhc=>absurd hc om) (λ_=>⟨by unfold rng;omega,cS (λhc=>absurd hc om) (λ_=>⟨by unfold rng;omega,ga ?_⟩)⟩)⟩
  rw[lW om,<-hmid]
  refine⟨by unfold rng;omega,λy=>y=((st:Int),(r0:Int)),condT (λhm=>?_) (λhm=>?_),?_⟩
  ·rw[if_pos (show mid<m by omega)] at hst hr0
   exact⟨by unfold rng;omega,Prod.ext (by dsimp only;omega) (by dsimp only;omega)⟩
  ·rw[if_neg (show ¬mid<m by omega)] at hst hr0
   exact Prod.ext (by dsimp only;omega) (by dsimp only;omega)
  rintro _ rfl
  refine⟨by unfold rng;omega,?_⟩
  refine bsW (x:=st) (y:=r0) (test:=λh=>!(decide (c (at' d (((mid:Int)+(m:Int))-1-(h:Int))) (at' d (h:Int))<0))) hsr.1 (λp q next q1 q2 q3 hA hA'=>condT (λ_=>⟨by unfold rng;omega,ga ?_⟩) (λhc=>absurd (show(p:Int)<(q:Int) by omega) hc)) (λnext=>condT (λhc=>absurd hc om) (λ_=>?_))
  ·rw[lW om]
   exact⟨by unfold rng;omega,by omega,by omega,c _ _,hC _ (lf om) _ (lf om) _ rfl,cx (λhr=>⟨by unfold rng;omega,hA hr⟩) hA'⟩
  rw[hs]
  have ee:(mid:Int)+(m:Int)-(s:Int)=(e:Int):=om
  rw[ee]
  refine⟨by unfold rng;omega,λy=>y=d3,⟨λy=>y=decide (s<m/\m<e),condT (λq1=>?_) (λq1=>?_),?_⟩,?_⟩
  ·exact decide_eq_decide.2 om
  ·exact(decide_eq_false om).symm
  ·rintro _ rfl
   refine condT (λhq=>vp hq.1 hq.2 om om ⟨?_,?_⟩) (λhq=>?_)
   ·exact(je _ _ _ _ om om).length_eq
   ·rw[hd3,if_pos hq]
   ·rw[hd3,if_neg hq]
  rintro _ rfl
  refine⟨λy=>y=d4,⟨λy=>y=decide (a<s/\s<mid),condT (λq1=>?_) (λq1=>?_),?_⟩,?_⟩
  ·exact decide_eq_decide.2 om
  ·exact(decide_eq_false om).symm
  ·rintro _ rfl
   exact h4 C hC (λy=>y=d4) rfl
  rintro _ rfl
  refine⟨λy=>y=decide (mid<e/\e<b),condT (λq1=>?_) (λq1=>?_),?_⟩
  ·exact decide_eq_decide.2 om
  ·exact(decide_eq_false om).symm
  rintro _ rfl
  exact h6 C hC Q hQ
theorem nm {C:Int->Int->(Int->Prop)->Prop} {c:Int->Int->Int} {l:List Int} {Q:List Int->Prop} (hC:Fol C c l) (hl:l.length<20) (hQ:Q (d8 (λx y=>decide (c x y<0)) l)):l_ C (l.length:Int) l Q:=by
 have key:∀Q':List Int->Prop,Q' (d8 (λx y=>decide (c x y<0)) l)->kT C 0 (l.length:Int) l Q':=λQ' h=>by
  have:=kS (C:=C) (c:=c) (A:=[]) (D:=[]) (l:=l) (Q:=Q') hC (by simp;omega) (by simpa using h)
  simpa using this
 refine⟨λy=>y=(0,20,l),λ_=>0,rfl,?_⟩
 rintro _ rfl
 refine condT (λhc=>om) (λ_=>key _ ⟨jl,λy=>y=(20,d8 (λx y=>decide (c x y<0)) l),λ_=>0,rfl,?_⟩)
 rintro _ rfl
 exact condT (λhc=>om) (λ_=>hQ)
theorem t8 (c:Int->Int->Int) {l:List Int} (h40:l.length<40):∃r:List Int,r.Perm l/\∀C,Fol C c l->∀Q:List Int->Prop,Q r->l_ C (l.length:Int) l Q:=by
 rcases Nat.lt_or_ge l.length 20 with h20 | h20
 ·exact⟨_,eI l,λC hC Q hQ=>nm hC h20 hQ⟩
 generalize hlt:(λx y:Int=>decide (c x y<0))=lt
 obtain⟨s1,hs1⟩:∃s,s=d8 lt (l.take 20):=⟨_,rfl⟩
 obtain⟨s2,hs2⟩:∃s,s=d8 lt (l.drop 20):=⟨_,rfl⟩
 have n1:s1.length=20:=by rw[hs1,jl,List.length_take];omega
 have n2:s2.length=l.length-20:=by rw[hs2,jl,List.length_drop]
 have p1:s1.Perm (l.take 20):=hs1▸eI _
 have p2:s2.Perm (l.drop 20):=hs2▸eI _
 have pl2:(s1++s2).Perm l:=by
  have:=p1.append p2
  rwa[List.take_append_drop] at this
 have nl2:(s1++s2).length=l.length:=pl2.length_eq
 have k1:∀C,Fol C c l->∀Q':List Int->Prop,Q' (s1++l.drop 20)->kT C 0 20 l Q':=λC hC Q' h=>by
  have:=kS (C:=C) (c:=c) (A:=[]) (D:=l.drop 20) (l:=l.take 20) (Q:=Q') (λx hx y hy=>hC x (List.mem_of_mem_take hx) y (List.mem_of_mem_take hy)) (by simp;omega) (by rw[hlt,<-hs1];simpa using h)
  have e:(l.take 20).length=20:=by rw[List.length_take];omega
  rw[e,List.nil_append,List.take_append_drop] at this
  exact this
 have k2:∀C,Fol C c l->∀Q':List Int->Prop,Q' (s1++s2)->kT C 20 (l.length:Int) (s1++l.drop 20) Q':=λC hC Q' h=>by
  have:=kS (C:=C) (c:=c) (A:=s1) (D:=[]) (l:=l.drop 20) (Q:=Q') (λx hx y hy=>hC x (List.mem_of_mem_drop hx) y (List.mem_of_mem_drop hy)) (by rw[n1,List.length_drop];simp;omega) (by rw[hlt,<-hs2];simpa using h)
  rw[n1,List.length_drop,List.append_nil,show 20+(l.length-20)=l.length by omega] at this
  exact this
 have k3:∃r:List Int,r.Perm l/\∀C,Fol C c l->∀Q:List Int->Prop,Q r->aU (σ:=Int×(List Int)) (20,s1++s2) λ⟨blockSize,data4⟩ next2=>
    ae (decide (blockSize<(l.length:Int)))
     (rng (2*blockSize)/\
     aU (σ:=Int×Int×(List Int)) (0,(2*blockSize),data4) λ⟨a1,b1,data5⟩ next3=>
      ae (decide (b1<=(l.length:Int)))
       (rng (a1+blockSize)/\
       ∃fu,jr C fu a1 (a1+blockSize) b1 data5 λdata6=>
       data6.length=data5.length/\
       rng (2*blockSize)/\
       rng (b1+(2*blockSize))/\
       next3 (b1,(b1+(2*blockSize)),data6))
       (rng (a1+blockSize)/\
       ae (decide ((a1+blockSize)<(l.length:Int)))
        (∃fu,jr C fu a1 (a1+blockSize) (l.length:Int) data5 λdata7=>
        data7.length=data5.length/\
        rng (blockSize*2)/\
        next2 ((blockSize*2),data7))
        (rng (blockSize*2)/\
        next2 ((blockSize*2),data5))))
     (Q data4):=by
  rcases Nat.lt_or_ge 20 l.length with h21 | h21
  ·obtain⟨r,pr,hr⟩:=nW c l.length 0 20 l.length (s1++s2) om h21 om om om
   refine⟨r,pr.trans pl2,λC hC Q hQ=>⟨λy=>y=(20,s1++s2)\/y=(40,r),λy=>(40-y.1).toNat,.inl rfl,?_⟩⟩
   rintro _ (rfl | rfl)
   ·refine condT (λ_=>⟨by unfold rng;omega,λy=>y=(0,40,s1++s2),λ_=>0,rfl,?_⟩) (λhc=>absurd om hc)
    rintro _ rfl
    refine condT (λhc=>om) (λ_=>⟨by unfold rng;omega,condT (λ_=>⟨l.length,hr C (hC.perm pl2) _ ⟨pr.length_eq,by unfold rng;omega,.inr rfl,?_⟩⟩) (λhc=>absurd om hc)⟩)
    show(40-(20*2:Int)).toNat<(40-(20:Int)).toNat
    decide
   ·exact condT (λhc=>om) (λ_=>hQ)
  ·refine⟨s1++s2,pl2,λC hC Q hQ=>⟨λy=>y=(20,s1++s2),λ_=>0,rfl,?_⟩⟩
   rintro _ rfl
   exact condT (λhc=>om) (λ_=>hQ)
 obtain⟨r,pr,hr⟩:=k3
 refine⟨r,pr,λC hC Q hQ=>⟨λy=>y=(0,20,l)\/y=(20,40,s1++l.drop 20),λy=>(40-y.2.1).toNat,.inl rfl,?_⟩⟩
 rintro _ (rfl | rfl)
 ·refine condT (λ_=>k1 C hC _ ⟨?_,by unfold rng;omega,.inr rfl,?_⟩) (λhc=>absurd om hc)
  ·rw[List.length_append,n1,List.length_drop];omega
  ·show(40-(20+20:Int)).toNat<(40-(20:Int)).toNat
   decide
 ·refine condT (λhc=>om) (λ_=>k2 C hC _ ⟨?_,hr C hC Q hQ⟩)
  rw[nl2,List.length_append,n1,List.length_drop];omega
end Go.Gg
namespace Go.Gg
theorem v_ {u:List GRat}:∀(fu:Nat) (a m b:Int) (d:List Int) (Q:List Int->Prop),aS fu a m b d u Q=jr (λx y K=>br x y u K) fu a m b d Q
 | 0,_,_,_,_,_=>rfl
 | fu+1,a,m,b,d,Q=>by
  rw[aS,jr]
  simp only[v_ fu]
  rfl
theorem uP {u:List Int}:∀(fu:Nat) (a m b:Int) (d:List Int) (Q:List Int->Prop),aO fu a m b d u Q=jr (λx y K=>bN x y u K) fu a m b d Q
 | 0,_,_,_,_,_=>rfl
 | fu+1,a,m,b,d,Q=>by
  rw[aO,jr]
  simp only[uP fu]
  rfl
theorem wa {u:List GRat} {l:List Int} {Q:List Int->Prop} (h:l_ (λx y K=>br x y u K) (l.length:Int) l λx1=>x1.length=l.length/\Q x1):bt l u Q:=by
 unfold bt ck
 simp only[v_]
 exact h
theorem wb {u:List Int} {l:List Int} {Q:List Int->Prop} (h:l_ (λx y K=>bN x y u K) (l.length:Int) l λx1=>x1.length=l.length/\Q x1):bo l u Q:=by
 unfold bo cb
 simp only[uP]
 exact h
end Go.Gg
namespace Go.Gg
def addL (q:List Rat) (A:List Int) (p:Rat):List Rat:=A.foldl (λq a=>q.set a.toNat (q.getD a.toNat 0+p)) q
def iQ (q:List Rat):Nat->Rat
 | 0=>0
 | n+1=>iQ q n+q.getD n 0
theorem e_ {q:List Rat} {i v:Nat} {x:Rat} (h:i<q.length):(q.set i x).getD v 0=if v=i then x else q.getD v 0:=by
 simp only[List.getD_eq_getElem?_getD,List.getElem?_set]
 by_cases hv:v=i
 ·subst hv
  simp[h]
 ·rw[if_neg (λhc=>hv hc.symm),if_neg hv]
theorem mU {p:Rat}:∀(A:List Int) (q:List Rat),(addL q A p).length=q.length
 | [],_=>rfl
 | a :: A,q=>by
  have:=mU (p:=p) A (q.set a.toNat (q.getD a.toNat 0+p))
  rw[List.length_set] at this
  exact this
theorem si {q:List Rat} {A:List Int} {a:Int} {p:Rat}:addL q (A++[a]) p=(addL q A p).set a.toNat ((addL q A p).getD a.toNat 0+p):=by simp[addL]
theorem nY {q:List Rat} {i:Nat} {p:Rat} (h:i<q.length):∀n,iQ (q.set i (q.getD i 0+p)) n=iQ q n+if i<n then p else 0
 | 0=>by simp[iQ];grind
 | n+1=>by
  rw[iQ,iQ,nY h n,e_ h]
  by_cases h1:i<n
  ·rw[if_pos h1,if_neg (by omega:¬n=i),if_pos om];grind
  ·by_cases h2:n=i
   ·subst h2
    rw[if_neg h1,if_pos rfl,if_pos om];grind
   ·rw[if_neg h1,if_neg h2,if_neg om]
    grind
theorem oQ {p:Rat} {n:Nat}:∀(A:List Int) (q:List Rat),(∀a∈A,0<=a/\a<n)->n<=q.length->iQ (addL q A p) n=iQ q n+(A.length:Rat)*p
 | [],q,_,_=>by simp[addL];grind
 | a :: A,q,h,hn=>by
  have ha:=h a List.mem_cons_self
  have e:addL q (a :: A) p=addL (q.set a.toNat (q.getD a.toNat 0+p)) A p:=rfl
  rw[e,oQ A _ (λb hb=>h b (List.mem_cons_of_mem _ hb)) (by rw[List.length_set];exact hn),nY om,if_pos om,List.length_cons]
  have:((A.length+1:Nat):Rat)=(A.length:Rat)+1:=by simp
  rw[this]
  grind
theorem mT {p:Rat} {v:Nat}:∀(A:List Int) (q:List Rat),(∀a∈A,a.toNat≠v)->(∀a∈A,a.toNat<q.length)->(addL q A p).getD v 0=q.getD v 0
 | [],_,_,_=>rfl
 | a :: A,q,h,hl=>by
  have e:addL q (a :: A) p=addL (q.set a.toNat (q.getD a.toNat 0+p)) A p:=rfl
  rw[e,mT A _ (λb hb=>h b (List.mem_cons_of_mem _ hb)) (λb hb=>by rw[List.length_set];exact hl b (List.mem_cons_of_mem _ hb)),e_ (hl a List.mem_cons_self),if_neg (λhc=>h a List.mem_cons_self hc.symm)]
theorem qt {q:List Rat} (h:∀v,0<=q.getD v 0):∀n v,v<n->q.getD v 0<=iQ q n
 | 0,v,hv=>om
 | n+1,v,hv=>by
  rw[iQ]
  have hn:=h n
  have hs:∀m,0<=iQ q m:=λm=>by
   induction m with
   | zero=>exact Rat.le_refl
   | succ m ih=>rw[iQ];have:=h m;grind
  by_cases e:v=n
  ·subst e;have:=hs v;grind
  ·have:=qt h n v om;grind
structure WQ (m D:Nat) (q:List Rat):Prop where
 nn:∀v,0<=q.getD v 0
 le:∀v,q.getD v 0<=1
 sum:iQ q m<=1
 int:∀v,∃z:Int,q.getD v 0*(D:Rat)=z
theorem uL {x:Rat} {D e:Nat} {z:Int} (h0:0<=x) (h1:x<=1) (hz:x*(D:Rat)=z) (hD:0<D) (he:D<2^e):RB e x:=by
 have hDr:(0:Rat)<(D:Rat):=by exact_mod_cast hD
 have hx:x=mkRat z D:=by
  rw[Rat.mkRat_eq_div]
  show x=(z:Rat) / (D:Rat)
  rw[<-hz]
  grind
 have z0:0<=z:=by
  have:(0:Rat)<=(z:Rat):=by rw[<-hz];exact Rat.mul_nonneg h0 (Rat.le_of_lt hDr)
  exact_mod_cast this
 have z1:z<=(D:Int):=by
  have:(z:Rat)<=((D:Int):Rat):=by
   rw[<-hz]
   have:=Rat.mul_le_mul_of_nonneg_right h1 (Rat.le_of_lt hDr)
   rw[Rat.one_mul] at this
   exact this
  exact_mod_cast this
 rw[hx]
 exact mX om om he
theorem q9 {p:Rat} (hp:0<=p):∀(A:List Int) (q:List Rat),(∀a∈A,a.toNat<q.length)->(∀v,0<=q.getD v 0)->∀v,0<=(addL q A p).getD v 0
 | [],_,_,h,v=>h v
 | a :: A,q,hl,h,v=>by
  have e:addL q (a :: A) p=addL (q.set a.toNat (q.getD a.toNat 0+p)) A p:=rfl
  rw[e]
  refine q9 hp A _ (λb hb=>by rw[List.length_set];exact hl b (List.mem_cons_of_mem _ hb)) (λu=>?_) v
  rw[e_ (hl a List.mem_cons_self)]
  split
  ·have:=h a.toNat;grind
  ·exact h u
theorem pB {p:Rat} {D:Nat} (hp:∃z:Int,p*(D:Rat)=z):∀(A:List Int) (q:List Rat),(∀a∈A,a.toNat<q.length)->(∀v,∃z:Int,q.getD v 0*(D:Rat)=z)->∀v,∃z:Int,(addL q A p).getD v 0*(D:Rat)=z
 | [],_,_,h,v=>h v
 | a :: A,q,hl,h,v=>by
  have e:addL q (a :: A) p=addL (q.set a.toNat (q.getD a.toNat 0+p)) A p:=rfl
  rw[e]
  refine pB hp A _ (λb hb=>by rw[List.length_set];exact hl b (List.mem_cons_of_mem _ hb)) (λu=>?_) v
  rw[e_ (hl a List.mem_cons_self)]
  split
  ·obtain⟨z1,h1⟩:=h a.toNat
   obtain⟨z2,h2⟩:=hp
   exact⟨z1+z2,by rw[Rat.add_mul,h1,h2];simp⟩
  ·exact h u
theorem WQ.less {m D:Nat} {q:List Rat} (h:WQ (m+1) D q):WQ m D q:=⟨h.nn,h.le,by
 have h1:=h.sum
 rw[iQ] at h1
 have:=h.nn m
 grind,h.int⟩
section
variable {m D:Nat} {q:List Rat} {A:List Int}
theorem WQ.part (h:WQ (m+1) D q) (hq:m+1<=q.length) (hA:∀a∈A,0<=a/\a<m) (hn:0<A.length) {j:Nat} (hj:j<=A.length):WQ m (D*A.length) (addL q (A.take j) (q.getD m 0 / (A.length:Rat))):=by
 have hAj:∀a∈A.take j,0<=a/\a<m:=λa ha=>hA a (List.mem_of_mem_take ha)
 have hAl:∀a∈A.take j,a.toNat<q.length:=λa ha=>by have:=hAj a ha;omega
 have hnr:(0:Rat)<(A.length:Rat):=by exact_mod_cast hn
 have hw:=h.nn m
 have hp:0<=q.getD m 0 / (A.length:Rat):=by
  rw[Rat.div_def]
  exact Rat.mul_nonneg hw (Rat.le_of_lt (Rat.inv_pos.2 hnr))
 have hpl:(A.length:Rat)*(q.getD m 0 / (A.length:Rat))=q.getD m 0:=by grind
 have hnn:=q9 hp (A.take j) q hAl h.nn
 have hsum:iQ (addL q (A.take j) (q.getD m 0 / (A.length:Rat))) m<=1:=by
  rw[oQ _ _ hAj om]
  have h1:=h.sum
  rw[iQ] at h1
  have hjl:((A.take j).length:Rat)<=(A.length:Rat):=by
   have:(A.take j).length<=A.length:=by rw[List.length_take];omega
   exact_mod_cast this
  have h2:=Rat.mul_le_mul_of_nonneg_right hjl hp
  grind
 refine⟨hnn,λv=>?_,hsum,pB ?_ _ _ hAl (λv=>?_)⟩
 ·rcases Nat.lt_or_ge v m with hv | hv
  ·have:=qt hnn m v hv
   grind
  ·rw[mT _ _ (λa ha=>by have:=hAj a ha;omega) hAl]
   exact h.le v
 ·obtain⟨z,hz⟩:=h.int m
  refine⟨z,?_⟩
  rw[<-hz]
  have e:((D*A.length:Nat):Rat)=(D:Rat)*(A.length:Rat):=by simp
  rw[e]
  grind
 ·obtain⟨z,hz⟩:=h.int v
  refine⟨z*(A.length:Int),?_⟩
  have e:((D*A.length:Nat):Rat)=(D:Rat)*(A.length:Rat):=by simp
  have e2:((z*(A.length:Int):Int):Rat)=(z:Rat)*(A.length:Rat):=by rw[Rat.intCast_mul];rfl
  rw[e,e2,<-hz]
  grind
end
def WL (l:List GRat) (q:List Rat):Prop:=l.length=q.length/\∀i:Nat,i<l.length->Fr (at' l (i:Int))/\cy (at' l (i:Int))=q.getD i 0
theorem WL.set' {l:List GRat} {q:List Rat} {i:Nat} {x:GRat} {p:Rat} (h:WL l q) (hi:i<l.length) (hf:Fr x) (hv:cy x=p):WL (set' l (i:Int) x) (q.set i p):=by
 refine⟨by rw[cg,List.length_set];exact h.1,λj hj=>?_⟩
 rw[cg] at hj
 rw[lc hi,e_ (by have:=h.1;omega)]
 split
 ·exact⟨hf,hv⟩
 ·exact h.2 j hj
theorem WL.rp {l:List GRat} {q:List Rat} {m D i e:Nat} (h:WL l q) (hq:WQ m D q) (hD:0<D) (hD2:D<2^e) (hi:i<l.length):Rp e (at' l (i:Int)) (q.getD i 0):=by
 have h1:=h.2 i hi
 obtain⟨z,hz⟩:=hq.int i
 exact⟨h1.1,h1.2,uL (hq.nn i) (hq.le i) hz hD hD2⟩
section
variable {f:GFormula}
def dm (f:GFormula) (i:Nat):List Int:=(at' f.Nodes (i:Int)).Args
def ik (f:GFormula) (i:Nat) (q:List Rat):List Rat:=if q.getD (f.Vars.toNat+i) 0=0\/(dm f i).length=0 then q else addL q (dm f i) (q.getD (f.Vars.toNat+i) 0 / ((dm f i).length:Rat))
def wtL (f:GFormula):Nat->List Rat
 | 0=>(List.replicate (f.Vars.toNat+f.Nodes.length) 0).set f.Top.toNat 1
 | k+1=>ik f (f.Nodes.length-1-k) (wtL f k)
theorem jc:∀k,(wtL f k).length=f.Vars.toNat+f.Nodes.length
 | 0=>by simp[wtL]
 | k+1=>by
  rw[wtL,ik]
  split
  ·exact jc k
  ·rw[mU];exact jc k
theorem gp {n v:Nat}:(List.replicate n (0:Rat)).getD v 0=0:=by
 rw[List.getD_eq_getElem?_getD,List.getElem?_replicate]
 split<;>rfl
theorem oP {n:Nat}:∀m,iQ (List.replicate n (0:Rat)) m=0
 | 0=>rfl
 | m+1=>by rw[iQ,oP m,gp];grind
theorem wt0 (g:FG f):WQ (f.Vars.toNat+f.Nodes.length) 1 (wtL f 0):=by
 have hv0:=g.v0;have ht0:=g.top0;have ht:=g.top
 have hl:f.Top.toNat<(List.replicate (f.Vars.toNat+f.Nodes.length) (0:Rat)).length:=by rw[List.length_replicate];omega
 have e:(1:Rat)=(List.replicate (f.Vars.toNat+f.Nodes.length) (0:Rat)).getD f.Top.toNat 0+1:=by rw[gp];grind
 have hval:∀v,(wtL f 0).getD v 0=0\/(wtL f 0).getD v 0=1:=λv=>by
  rw[wtL,e_ hl]
  split
  ·exact .inr rfl
  ·exact .inl gp
 refine⟨λv=>by rcases hval v with h | h<;>rw[h]<;>decide,λv=>by rcases hval v with h | h<;>rw[h]<;>decide,?_,λv=>?_⟩
 ·rw[wtL,e,nY hl,oP]
  split<;>grind
 ·rcases hval v with h | h
  ·exact⟨0,by rw[h];simp⟩
  ·exact⟨1,by rw[h];simp⟩
theorem qm (g:FG f):∀k,k<=f.Nodes.length->∃D,0<D/\D<2^(4*k+1)/\WQ (f.Vars.toNat+(f.Nodes.length-k)) D (wtL f k)
 | 0,_=>⟨1,by omega,by simp,wt0 g⟩
 | k+1,hk=>by
  obtain⟨D,h1,h2,h3⟩:=qm g k om
  have hv0:=g.v0
  obtain⟨i,hi⟩:∃i,i=f.Nodes.length-1-k:=⟨_,rfl⟩
  have hil:i<f.Nodes.length:=om
  have e:f.Vars.toNat+(f.Nodes.length-k)=f.Vars.toNat+i+1:=om
  have e':f.Vars.toNat+(f.Nodes.length-(k+1))=f.Vars.toNat+i:=om
  rw[e] at h3
  rw[e']
  have hA:=iB g hil
  have h16:=(fN (g.node i hil)).len
  have hp:2^(4*(k+1)+1)=2^(4*k+1)*16:=by rw[show 4*(k+1)+1=(4*k+1)+4 by omega,Nat.pow_add]
  have hpos:0<2^(4*k+1):=Nat.pow_pos om
  rw[wtL,<-hi,ik]
  split
  ·exact⟨D,h1,by omega,h3.less⟩
  ·rename_i hc
   have hn:0<(dm f i).length:=by
    rcases Nat.eq_zero_or_pos (dm f i).length with h | h
    ·exact absurd (.inr h) hc
    ·exact h
   have hlen:=jc (f:=f) k
   have h4:=h3.part (A:=dm f i) om (λa ha=>by have:=hA a ha;omega) hn (Nat.le_refl _)
   rw[List.take_of_length_le (Nat.le_refl _)] at h4
   refine⟨D*(dm f i).length,Nat.mul_pos h1 hn,?_,h4⟩
   rw[hp]
   have h16':(dm f i).length<=16:=h16
   exact Nat.lt_of_le_of_lt (Nat.mul_le_mul_left D h16') (Nat.mul_lt_mul_of_pos_right h2 om)
theorem sW {l:List GRat} {q:List Rat} {A:List Int} {m D e:Nat} {p:Rat} {sh:GRat} {Q:List GRat->Prop} (hw:WL l q) (hA:∀a∈A,0<=a/\a<l.length) (h16:A.length<=16) (hsh:Rp (e+64) sh p) (hD:0<D) (hD2:D<2^e) (he:e<=1000)
  (hq:∀j,j<=A.length->WQ m D (addL q (A.take j) p)) (hQ:∀l',WL l' (addL q A p)->Q l') :
  aU (σ:=Int×(List GRat)) (0,l) λ⟨x2,x3⟩ next2=>
        ae (decide (x2<(A.length:Int)))
         (((0:Int)<=x2/\x2<(A.length:Int))/\
         ((0:Int)<=(at' A x2)/\(at' A x2)<(x3.length:Int))/\
         lO (cK (at' x3 (at' A x2)) sh) λr5=>
         ((0:Int)<=(at' A x2)/\(at' A x2)<(x3.length:Int))/\
         rng (x2+1)/\
         next2 ((x2+1),(set' x3 (at' A x2) r5)))
         (Q x3):=by
 refine fI (n:=A.length) (λj y=>y.1=(j:Int)/\WL y.2 (addL q (A.take j) p)) (λy=>y.1) 0 (λj y hy=>by rw[hy.1];omega) ⟨rfl,hw⟩ ?_ ?_
 ·rintro j ⟨x2,x3⟩ next hj ⟨hx,hW⟩ hn
  dsimp only at hx hW
  subst hx
  have hl:x3.length=l.length:=by have:=hW.1;rw[mU] at this;have:=hw.1;omega
  have ha:=hA _ (lB hj)
  obtain⟨a,hae⟩:∃a:Nat,at' A (j:Int)=a:=⟨(at' A (j:Int)).toNat,by omega⟩
  have e1:A.take (j+1)=A.take j++[at' A (j:Int)]:=gl hj
  rw[hae] at ha
  refine condT (λ_=>⟨⟨by omega,by omega⟩,by rw[hae];omega,?_⟩) (λhc=>absurd (show(j:Int)<A.length by omega) hc)
  rw[hae]
  refine vS (hW.rp (hq j om) hD hD2 om) hsh (by show e+(e+64)+1<=35184372088000;omega) (λhr=>⟨by omega,by unfold rng;omega,hn _ ⟨by dsimp only;omega,?_⟩⟩)
  dsimp only
  rw[e1,si,hae,Int.toNat_natCast]
  exact hW.set' om hr.1 hr.2.1
 ·rintro⟨x2,x3⟩ next ⟨hx,hW⟩
  dsimp only at hx hW
  subst hx
  refine condT (λhc=>om) (λ_=>hQ _ ?_)
  rw[List.take_of_length_le (Nat.le_refl _)] at hW
  exact hW
def ltW (q:List Rat) (a b:Int):Bool:=decide (q.getD b.toNat 0<q.getD a.toNat 0)
def jT (f:GFormula):List Int:=d8 (ltW (wtL f f.Nodes.length)) (fx f.Vars.toNat)
def gP (c:Int->Int->Int) (l r:List Int):Prop:=∀C,Fol C c l->∀Q:List Int->Prop,Q r->l_ C (l.length:Int) l Q
def nh (q:List Rat) (x y:Int):Int:=md (q.getD y.toNat 0-q.getD x.toNat 0)
theorem p8 {q:List Rat} {l:List Int}:d8 (ltW q) l=d8 (λx y=>decide (nh q x y<0)) l:=pm l (λx _ y _=>by
  unfold ltW nh
  refine decide_eq_decide.2 ?_
  rw[sZ]
  constructor<;>intro h<;>grind)
theorem wN {l:List Int} {u:List GRat} {q:List Rat} {m D e:Nat} (hw:WL u q) (hq:WQ m D q) (hD:0<D) (hD2:D<2^e) (he:e<=1000) (hu:∀x∈l,0<=x/\x<u.length):Fol (λx y K=>br x y u K) (nh q) l:=λx hx y hy K hK=>by
 have h1:=hu x hx
 have h2:=hu y hy
 obtain⟨a,rfl⟩:∃a:Nat,x=a:=⟨x.toNat,by omega⟩
 obtain⟨b,rfl⟩:∃b:Nat,y=b:=⟨y.toNat,by omega⟩
 exact⟨h2,h1,vP (hw.rp hq hD hD2 om) (hw.rp hq hD hD2 om) (by show e+e+1<=35184372088000;omega) hK⟩
theorem jS (ht:rng f.Top) {Q:List Int->Option Int->Prop} {r:List Int} (h0:kY f≠0->Q [] (some (kY f))) (hr0:FG f->r.Perm (fx f.Vars.toNat)/\gP (nh (wtL f f.Nodes.length)) (fx f.Vars.toNat) r) (h1:FG f->Q r none):cH f Q:=by
 refine eE ht (tB (λhc=>by rw[gD hc];exact h0 hc) (λhz=>?_))
 have g:=jQ.1 hz
 have hv0:=g.v0;have hv24:=g.v24;have hn:=g.n128;have ht0:=g.top0;have htl:=g.top
 obtain⟨hrp0,hrs⟩:=hr0 g
 have hQ:=h1 g
 obtain⟨n,hvn⟩:∃n:Nat,f.Vars=n:=⟨f.Vars.toNat,by omega⟩
 obtain⟨e,he⟩:∃e,e=4*f.Nodes.length+1:=⟨_,rfl⟩
 have hpw:∀k D,k<=f.Nodes.length->D<2^(4*k+1)->D<2^e:=λk D hk hD=>Nat.lt_of_lt_of_le hD (Nat.pow_le_pow_right om om)
 refine⟨by unfold rng;omega,⟨by omega,by omega,by omega,by omega⟩,uR (by unfold rng;omega) (λhr=>⟨by omega,?_⟩)⟩
 obtain⟨top,htop⟩:∃t:Nat,f.Top=t:=⟨f.Top.toNat,by omega⟩
 refine⟨by unfold rng;omega,λk y=>WL y (wtL f k),?_,λk hk j x hj hx y hy=>?_,λy hy=>?_⟩
 ·rw[htop]
  have hz:WL (bG (f.Vars+(f.Nodes.length:Int)) (⟨false,[],[]⟩:GRat)) (List.replicate (f.Vars.toNat+f.Nodes.length) 0):=by
   refine⟨by simp[bG];omega,λi hi=>?_⟩
   have hlen:(bG (f.Vars+(f.Nodes.length:Int)) (⟨false,[],[]⟩:GRat)).length=f.Vars.toNat+f.Nodes.length:=by simp[bG];omega
   rw[gp,show at' (bG (f.Vars+(f.Nodes.length:Int)) (⟨false,[],[]⟩:GRat)) (i:Int)=⟨false,[],[]⟩ by rw[jA hi];simp[bG]]
   have:=Rp.zero (k:=1) om (by decide)
   exact⟨this.1,this.2.1⟩
  have hl:(bG (f.Vars+(f.Nodes.length:Int)) (⟨false,[],[]⟩:GRat)).length=f.Vars.toNat+f.Nodes.length:=by simp[bG];omega
  have:=hz.set' (i:=top) (x:=b_ ((1:Int):Rat)) (p:=1) om hr.1 (by rw[hr.2.1];rfl)
  show WL _ (wtL f 0)
  rw[wtL,htop,Int.toNat_natCast]
  exact this
 ·obtain⟨i,hi⟩:∃i,i=f.Nodes.length-1-k:=⟨_,rfl⟩
  have hil:i<f.Nodes.length:=om
  have hji:j=(i:Int):=om
  subst hji
  have hyl:y.length=f.Vars.toNat+f.Nodes.length:=by rw[hy.1,jc]
  have eidx:f.Vars+(i:Int)=((f.Vars.toNat+i:Nat):Int):=om
  obtain⟨D,d1,d2,d3⟩:=qm g k om
  have d2':=hpw k D om d2
  have hA:=iB g hil
  have h16:(dm f i).length<=16:=(fN (g.node i hil)).len
  have hxA:x.Args=dm f i:=by rw[hx];rfl
  rw[eidx,hxA]
  have hrp:=hy.rp d3 d1 d2' (i:=f.Vars.toNat+i) om
  have hst:wtL f (k+1)=ik f i (wtL f k):=by rw[wtL,<-hi]
  refine⟨by unfold rng;omega,by omega,vg hrp (cS (λhs=>?_) (λhs=>cS (λha=>?_) (λha=>?_)))⟩
  ·have h0:=qE.1 hs
   show WL y (wtL f (k+1))
   rw[hst,ik,if_pos (.inl h0)]
   exact hy
  ·show WL y (wtL f (k+1))
   rw[hst,ik,if_pos (.inr om)]
   exact hy
  ·have hw0:(wtL f k).getD (f.Vars.toNat+i) 0≠0:=λhc=>hs (qE.2 hc)
   have hnn:0<(dm f i).length:=om
   have hstep:wtL f (k+1)=addL (wtL f k) (dm f i) ((wtL f k).getD (f.Vars.toNat+i) 0 / ((dm f i).length:Rat)):=by
    rw[hst,ik,if_neg (by rintro(h | h);exact hw0 h;omega)]
   have hlr:((((dm f i).length:Nat):Int):Rat)≠0:=by
    intro hc
    have:(((dm f i).length:Nat):Int)=0:=by exact_mod_cast hc
    omega
   refine uR (by unfold rng;omega) (λho=>vM hrp ho (by show e+64+1<=35184372088000;omega) hlr (λhd=>cx (λhb=>by cases hb) (λ_=>?_)))
   have em:f.Vars.toNat+(f.Nodes.length-k)=f.Vars.toNat+i+1:=om
   rw[em] at d3
   obtain⟨D',p1,p2,_⟩:=qm g (k+1) om
   have hD2:D*(dm f i).length<2^e:=by
    have q1:D*(dm f i).length<2^(4*(k+1)+1):=by
     rw[show 4*(k+1)+1=(4*k+1)+4 by omega,Nat.pow_add]
     exact Nat.lt_of_le_of_lt (Nat.mul_le_mul_left D h16) (Nat.mul_lt_mul_of_pos_right d2 om)
    exact hpw (k+1) _ om q1
   refine sW (e:=e) (D:=D*(dm f i).length) (m:=f.Vars.toNat+i) hy (λa ha=>by have:=hA a ha;omega) h16 hd (Nat.mul_pos d1 hnn) hD2 om (λj hj=>?_) (λl' hl'=>?_)
   ·exact d3.part (by rw[jc];omega) (λa ha=>by have:=hA a ha;omega) hnn hj
   ·show WL l' (wtL f (k+1))
    rw[hstep]
    exact hl'
 ·obtain⟨D,d1,d2,d3⟩:=qm g f.Nodes.length (Nat.le_refl _)
  have hyl:y.length=f.Vars.toNat+f.Nodes.length:=by rw[hy.1,jc]
  rw[hvn]
  refine rD om ?_
  rw[hvn,Int.toNat_natCast] at hrs hrp0
  have hl:=hrp0.length_eq
  exact wa (hrs _ (wN hy d3 d1 (hpw _ _ (Nat.le_refl _) d2) om (λx hx=>by have:=gz.1 hx;omega)) _ ⟨hl,hl,hQ⟩)
theorem pF (h:f.Vars<20) (h0:0<=f.Vars):(jT f).Perm (fx f.Vars.toNat)/\gP (nh (wtL f f.Nodes.length)) (fx f.Vars.toNat) (jT f):=by
 refine⟨eI _,λC hC Q hQ=>?_⟩
 unfold jT at hQ
 rw[p8] at hQ
 exact nm hC (by rw[ep];omega) hQ
end
end Go.Gg
namespace Go.Gg
section
variable {f:GFormula}
abbrev mkF (f:GFormula) (k:Nat):Prop:=at' (dh f f.Nodes.length) (f.Vars+k)=true
def cM (f:GFormula):Nat->Nat
 | 0=>0
 | k+1=>cM f k+(if at' (dh f f.Nodes.length) (f.Vars+k)=true then 1 else 0)
def rho (f:GFormula) (a:Int):Int:=if a<f.Vars then a else f.Vars+(cM f (a-f.Vars).toNat:Nat)
def trN (f:GFormula):Nat->List GNode
 | 0=>[]
 | k+1=>if at' (dh f f.Nodes.length) (f.Vars+k)=true then trN f k++[⟨(at' f.Nodes (k:Int)).Kind,(at' f.Nodes (k:Int)).K,(at' f.Nodes (k:Int)).Args.map (rho f)⟩] else trN f k
def trF (f:GFormula):GFormula:=⟨f.Vars,trN f f.Nodes.length,rho f f.Top⟩
theorem gM:∀k,(trN f k).length=cM f k
 | 0=>rfl
 | k+1=>by
  rw[trN,cM]
  split
  ·rw[List.length_append,gM k];rfl
  ·rw[gM k];rfl
theorem lX {k:Nat} (h:mkF f k):cM f (k+1)=cM f k+1:=by rw[cM,if_pos (show at' (dh f f.Nodes.length) (f.Vars+k)=true from h)]
theorem oy {k:Nat} (h:¬mkF f k):cM f (k+1)=cM f k:=by rw[cM,if_neg (show ¬at' (dh f f.Nodes.length) (f.Vars+k)=true from h)];rfl
theorem tJ {i:Nat}:∀ {k:Nat},i<=k->cM f i<=cM f k
 | 0,h=>by
        obtain rfl:i=0:=om
        exact Nat.le_refl _
 | k+1,h=>by
  rcases Nat.lt_or_ge i (k+1) with h1 | h1
  ·have:=tJ (i:=i) (k:=k) om
   rw[cM];omega
  ·obtain rfl:i=k+1:=om
   exact Nat.le_refl _
theorem q8 {i k:Nat} (h:mkF f i) (hk:i<k):cM f i<cM f k:=by
 have:=tJ (f:=f) (i:=i+1) (k:=k) hk
 rw[lX h] at this
 omega
theorem vQ:∀k,cM f k<=k
 | 0=>Nat.le_refl _
 | k+1=>by rw[cM];have:=vQ k;split<;>omega
theorem pJ {i:Nat} (h:mkF f i):∀ {k:Nat},i<k->at' (trN f k) (cM f i:Int)=⟨(at' f.Nodes (i:Int)).Kind,(at' f.Nodes (i:Int)).K,(at' f.Nodes (i:Int)).Args.map (rho f)⟩
 | 0,hk=>om
 | k+1,hk=>by
  rw[trN]
  rcases Nat.lt_or_ge i k with h1 | h1
  ·have ih:=pJ h h1
   have hl:=q8 h h1
   split
   ·rw[py om (by rw[gM];omega)];exact ih
   ·exact ih
  ·obtain rfl:i=k:=om
   rw[if_pos (show at' (dh f f.Nodes.length) (f.Vars+i)=true from h),<-gM]
   exact qh
theorem eG {a:Int} (h:a<f.Vars):rho f a=a:=if_pos h
theorem fU {k:Nat}:rho f (f.Vars+k)=f.Vars+(cM f k:Nat):=by
 unfold rho
 rw[if_neg om]
 congr 3
 omega
theorem ie (g:FG f) {i:Nat} (hi:i<f.Nodes.length) (h:mkF f i):∀a∈(at' f.Nodes (i:Int)).Args,(0<=a/\a<f.Vars+i)/\at' (dh f f.Nodes.length) a=true:=λa ha=>
 ⟨iB g hi a ha,(dR g f.Nodes.length (Nat.le_refl _)).cl i om hi h a ha⟩
theorem n4 {a:Int} {i:Nat} (h0:0<=a) (hv:0<=f.Vars) (ha:a<f.Vars+i) (hm:at' (dh f f.Nodes.length) a=true):0<=rho f a/\rho f a<f.Vars+(cM f i:Nat):=by
 by_cases h:a<f.Vars
 ·rw[eG h];omega
 ·obtain⟨k,rfl⟩:∃k:Nat,a=f.Vars+k:=⟨(a-f.Vars).toNat,by omega⟩
  rw[fU]
  have:=q8 (f:=f) (i:=k) (k:=i) hm om
  omega
theorem tY (g:FG f):∀n,n<(trF f).Nodes.length->∃i,i<f.Nodes.length/\mkF f i/\cM f i=n:=by
 have key:∀k n,n<cM f k->∃i,i<k/\mkF f i/\cM f i=n:=λk=>by
  induction k with
  | zero=>intro n hn;rw[cM] at hn;omega
  | succ k ih=>
   intro n hn
   by_cases hm:mkF f k
   ·rw[lX hm] at hn
    by_cases he:n=cM f k
    ·exact⟨k,by omega,hm,he.symm⟩
    ·obtain⟨i,h1,h2⟩:=ih n om
     exact⟨i,by omega,h2⟩
   ·rw[oy hm] at hn
    obtain⟨i,h1,h2⟩:=ih n hn
    exact⟨i,by omega,h2⟩
 intro n hn
 refine key _ n ?_
 have:(trF f).Nodes.length=cM f f.Nodes.length:=gM _
 omega
theorem v8 (g:FG f):FG (trF f):=by
 have v0:=g.v0
 have hn:=g.n128
 have hl:(trF f).Nodes.length=cM f f.Nodes.length:=gM _
 have hle:=vQ (f:=f) f.Nodes.length
 have ht:=n4 g.top0 v0 g.top (dR g f.Nodes.length (Nat.le_refl _)).top
 refine⟨v0,g.v24,by omega,λn hn=>?_,ht.1,by rw[hl];exact ht.2⟩
 obtain⟨i,hi,hm,rfl⟩:=tY g n hn
 have h0:=g.node i hi
 have hat:at' (trF f).Nodes (cM f i:Int)=_:=pJ hm hi
 unfold iI at h0 ⊢
 rw[hat]
 simp only[List.length_map]
 split at h0
 ·cases h0
 rename_i c1
 split at h0
 ·cases h0
 rename_i c2
 split at h0
 ·cases h0
 rw[if_neg c1,if_neg c2,if_neg]
 ·exact h0
 ·rintro⟨j,hj,hc⟩
  rw[uH hj] at hc
  have h1:=ie g hi hm _ (lB hj)
  have h2:=n4 h1.1.1 v0 h1.1.2 h1.2
  have h3:(trF f).Vars=f.Vars:=rfl
  omega
theorem vT {Q:GFormula->Option Int->Prop} (g:FG f) (hQ:Q (trF f) none):gB f Q:=by
 have v0:=g.v0;have v24:=g.v24;have n128:=g.n128;have t0:=g.top0;have tt:=g.top
 have hl:=ig g f.Nodes.length
 have hb:=dR g f.Nodes.length (Nat.le_refl _)
 obtain⟨sl,sa⟩:=sS (l:=dh f f.Nodes.length) (a:=f.Vars) om
 have hrl:((bG (f.Vars+(f.Nodes.length:Int)) (0:Int)).length:Int)=f.Vars+f.Nodes.length:=eV om
 refine eE (by unfold rng;omega) ?_
 rw[jQ.2 g]
 refine cx (λhc=>by cases hc) (λ_=>⟨by unfold rng;omega,⟨by omega,by omega,by omega,by omega⟩,?_⟩)
 refine fI (n:=f.Vars.toNat) (λi (y:Int×List Int)=>(y.1=(i:Int)/\(y.2.length:Int)=f.Vars+f.Nodes.length)/\∀v:Nat,v<i->at' y.2 (v:Int)=(v:Int)) (λy=>y.1) 0 (λi y hy=>by rw[hy.1.1];omega) ⟨⟨rfl,hrl⟩,λv hv=>absurd hv om⟩ ?_ ?_
 ·rintro i ⟨x,to⟩ next hi ⟨⟨hx,hl1⟩,hI⟩ hn
  dsimp only at hx hl1 hI
  subst hx
  refine condT (λ_=>⟨by omega,by unfold rng;omega,hn _ ⟨⟨by dsimp only;omega,by dsimp only;rw[cg];exact hl1⟩,λv hv=>?_⟩⟩) (λhc=>absurd (show(i:Int)<f.Vars by omega) hc)
  dsimp only
  rw[lc om]
  split
  ·rename_i he;rw[he]
  ·exact hI v om
 rintro⟨x,to0⟩ next ⟨⟨hx,hl1⟩,hI⟩
 dsimp only at hx hl1 hI
 subst hx
 refine condT (λhc=>absurd hc om) (λ_=>⟨_,uG g rfl,⟨by omega,by omega,by omega⟩,?_⟩)
 refine fI (n:=f.Nodes.length) (λi (y:Int×List Int×List GNode)=>(y.1=(i:Int)/\(y.2.1.length:Int)=f.Vars+f.Nodes.length/\y.2.2=trN f i)/\(∀v:Nat,(v:Int)<f.Vars->at' y.2.1 (v:Int)=(v:Int))/\∀k:Nat,k<i->mkF f k->at' y.2.1 (f.Vars+k)=f.Vars+(cM f k:Nat)) (λy=>y.1) 0
  (λi y hy=>by rw[hy.1.1];omega) ⟨⟨rfl,hl1,rfl⟩,λv hv=>hI v om,λk hk=>absurd hk om⟩ ?_ ?_
 ·rintro i ⟨x,to,x2⟩ next2 hi ⟨⟨hx,hl2,hx2⟩,hV,hK⟩ hn
  dsimp only at hx hl2 hx2 hV hK
  subst hx hx2
  have ng:=fN (g.node i hi)
  have hk:=vQ (f:=f) i
  have hlen:=gM (f:=f) i
  dsimp only
  rw[sa i om]
  refine condT (λ_=>⟨by omega,cx (λhm=>?_) (λhm=>⟨by omega,?_⟩)⟩) (λhc=>absurd (show(i:Int)<_ by omega) hc)
  ·have hm':¬mkF f i:=by unfold mkF;intro hc;rw[hc] at hm;cases hm
   refine⟨by unfold rng;omega,hn _ ⟨⟨by dsimp only;omega,hl2,by dsimp only;rw[trN,if_neg (show ¬at' (dh f f.Nodes.length) (f.Vars+i)=true from hm')]⟩,hV,λk hk hmk=>?_⟩⟩
   by_cases hk2:k<i
   ·exact hK k hk2 hmk
   ·obtain rfl:k=i:=om
    exact absurd hmk hm'
  ·have hm':mkF f i:=by simpa[mkF] using hm
   have ll:=ng.len
   have hin:=ie g hi hm'
   have harg:∀a∈(at' f.Nodes (i:Int)).Args,at' to a=rho f a:=λa ha=>by
    have h3:=hin a ha
    by_cases hv:a<f.Vars
    ·obtain⟨v,rfl⟩:∃v:Nat,a=v:=⟨a.toNat,by omega⟩
     rw[hV v hv,eG hv]
    ·obtain⟨k,rfl⟩:∃k:Nat,a=f.Vars+k:=⟨(a-f.Vars).toNat,by omega⟩
     rw[hK k om h3.2,fU]
   have hmap:(at' f.Nodes (i:Int)).Args.map (λa=>at' to a)=(at' f.Nodes (i:Int)).Args.map (rho f):=List.map_congr_left harg
   refine gX (n:=(at' f.Nodes (i:Int)).Args.length) (λj=>((j:Int),((at' f.Nodes (i:Int)).Args.take j).map λa=>at' to a)) (λy=>y.1) 0 (λj=>by dsimp only;omega) rfl (λj next3 hj hn3=>?_) (λnext3=>?_)
   ·have h3:=hin _ (lB hj)
    dsimp only
    refine condT (λ_=>⟨by omega,by omega,by rw[nE,List.length_map,List.length_take];omega,by unfold rng;omega,?_⟩) (λhc=>absurd (show(j:Int)<_ by omega) hc)
    rw[gl hj,List.map_append] at hn3
    exact hn3
   ·refine condT (λhc=>absurd hc om) (λ_=>?_)
    dsimp only
    rw[List.take_length,hmap]
    refine⟨by unfold rng;omega,by unfold rng;omega,by omega,by rw[nE];omega,by unfold rng;omega,hn _ ⟨⟨by dsimp only;omega,by dsimp only;rw[cg];exact hl2,by dsimp only;rw[trN,if_pos (show at' (dh f f.Nodes.length) (f.Vars+i)=true from hm')]⟩,λv hv=>?_,λk hk hmk=>?_⟩⟩
    ·dsimp only
     rw[da om om,if_neg om]
     exact hV v hv
    ·dsimp only
     rw[da om om,hlen]
     by_cases hki:k=i
     ·subst hki
      rw[if_pos rfl]
     ·rw[if_neg om]
      exact hK k om hmk
 ·rintro⟨x,to,x2⟩ next2 ⟨⟨hx,hl2,hx2⟩,hV,hK⟩
  dsimp only at hx hl2 hx2 hV hK
  subst hx hx2
  have hT:at' to f.Top=rho f f.Top:=by
   by_cases hv:f.Top<f.Vars
   ·obtain⟨v,hv'⟩:∃v:Nat,f.Top=v:=⟨f.Top.toNat,by omega⟩
    rw[eG hv]
    rw[hv'] at hv ⊢
    exact hV v hv
   ·obtain⟨k,hk⟩:∃k:Nat,f.Top=f.Vars+k:=⟨(f.Top-f.Vars).toNat,by omega⟩
    have hbt:=hb.top
    rw[hk] at hbt ⊢
    rw[hK k om hbt,fU]
  refine condT (λhc=>absurd hc om) (λ_=>⟨by omega,?_⟩)
  rw[hT]
  exact hQ
end
end Go.Gg
namespace Go.Gg
section
variable {f:GFormula}
def Kp (f:GFormula) (a:Int):Prop:=a<f.Vars\/at' (dh f f.Nodes.length) a=true
theorem n5 {a b:Int} (ha:Kp f a) (hb:Kp f b) (h:rho f a=rho f b):a=b:=by
 by_cases h1:a<f.Vars<;>by_cases h2:b<f.Vars
 ·rw[eG h1,eG h2] at h;exact h
 ·obtain⟨k,rfl⟩:∃k:Nat,b=f.Vars+k:=⟨(b-f.Vars).toNat,by omega⟩
  rw[eG h1,fU] at h;omega
 ·obtain⟨k,rfl⟩:∃k:Nat,a=f.Vars+k:=⟨(a-f.Vars).toNat,by omega⟩
  rw[eG h2,fU] at h;omega
 ·obtain⟨i,rfl⟩:∃k:Nat,a=f.Vars+k:=⟨(a-f.Vars).toNat,by omega⟩
  obtain⟨k,rfl⟩:∃k:Nat,b=f.Vars+k:=⟨(b-f.Vars).toNat,by omega⟩
  rw[fU,fU] at h
  have hi:mkF f i:=ha.resolve_left h1
  have hk:mkF f k:=hb.resolve_left h2
  rcases Nat.lt_trichotomy i k with h3 | h3 | h3
  ·have:=q8 hi h3;omega
  ·rw[h3]
  ·have:=q8 hk h3;omega
theorem i2 (g:FG f) {a:Int} (h0:0<=a) (h:a<f.Vars+f.Nodes.length) (hk:Kp f a):0<=rho f a/\rho f a<f.Vars+(cM f f.Nodes.length:Nat):=by
 by_cases h1:a<f.Vars
 ·rw[eG h1];omega
 ·exact n4 h0 g.v0 h (hk.resolve_left h1)
theorem kz:(trF f).Nodes.length=cM f f.Nodes.length:=gM _
theorem nS {i:Nat} (hm:mkF f i) (hi:i<f.Nodes.length):(at' (trF f).Nodes (cM f i:Int)).Args=(at' f.Nodes (i:Int)).Args.map (rho f):=by
 rw[show at' (trF f).Nodes (cM f i:Int)=_ from pJ hm hi]
structure VR14 (f:GFormula) (s s':List Int×List Bool):Prop where
 ev:s.1=s'.1
 l1:(s.2.length:Int)=f.Vars+f.Nodes.length
 l2:(s'.2.length:Int)=f.Vars+(cM f f.Nodes.length:Nat)
 se:∀a,0<=a->a<f.Vars+f.Nodes.length->Kp f a->at' s.2 a=at' s'.2 (rho f a)
 un:∀a,0<=a->¬Kp f a->at' s.2 a=false
theorem VR14.set (g:FG f) {s s':List Int×List Bool} (h:VR14 f s s') {arg:Int} (h0:0<=arg) (h1:arg<f.Vars+f.Nodes.length) (hk:Kp f arg) {e e':List Int} (he:e=e'):VR14 f (e,set' s.2 arg true) (e',set' s'.2 (rho f arg) true):=by
 have hb:=i2 g h0 h1 hk
 have l1:=h.l1
 have l2:=h.l2
 refine⟨he,by dsimp only;rw[cg];exact l1,by dsimp only;rw[cg];exact l2,λa a0 a1 ak=>?_,λa a0 ak=>?_⟩
 ·dsimp only
  have hb2:=i2 g a0 a1 ak
  rw[da om a0,da om hb2.1]
  by_cases e:a=arg
  ·rw[if_pos e,if_pos (by rw[e])]
  ·rw[if_neg e,if_neg (λhc=>e (n5 ak hk hc))]
   exact h.se a a0 a1 ak
 ·dsimp only
  rw[da om a0,if_neg (λhc:a=arg=>ak (by rw[hc];exact hk))]
  exact h.un a a0 ak
theorem qo (g:FG f):∀(fu fu':Nat) (arg:Int) (s s':List Int×List Bool),0<=arg->arg<f.Vars+f.Nodes.length->Kp f arg->arg<fu->rho f arg<fu'->VR14 f s s'->VR14 f (iP f fu arg s) (iP (trF f) fu' (rho f arg) s')
 | 0,_,_,_,_,h0,_,_,h,_,_=>om
 | _+1,0,_,_,_,h0,h1,hk,_,h,_=>by have:=(i2 g h0 h1 hk).1;omega
 | fu+1,fu'+1,arg,s,s',h0,h1,hk,h2,h3,hR=>by
  have ihf:=qo g fu fu'
  have v0:=g.v0
  have hV:(trF f).Vars=f.Vars:=rfl
  rw[iP,iP,<-hR.se arg h0 h1 hk]
  by_cases hs:at' s.2 arg=true
  ·rw[if_pos hs,if_pos hs];exact hR
  rw[if_neg hs,if_neg hs]
  by_cases hv:arg<f.Vars
  ·rw[if_pos hv,if_pos (show rho f arg<(trF f).Vars by rw[hV,eG hv];exact hv)]
   exact hR.set g h0 h1 hk (e:=s.1++[arg]) (e':=s'.1++[rho f arg]) (by rw[hR.ev,eG hv])
  ·obtain⟨i,rfl⟩:∃i:Nat,arg=f.Vars+i:=⟨(arg-f.Vars).toNat,by omega⟩
   have hm:mkF f i:=hk.resolve_left hv
   have hi:i<f.Nodes.length:=om
   rw[if_neg hv,if_neg (show ¬rho f (f.Vars+i)<(trF f).Vars by rw[hV,fU];omega)]
   rw[show f.Vars+(i:Int)-f.Vars=(i:Int) by omega,show rho f (f.Vars+i)-(trF f).Vars=(cM f i:Int) by rw[hV,fU];omega,nS hm hi,List.foldl_map]
   have hA:=ie g hi hm
   have hR1:=hR.set g h0 h1 hk hR.ev
   rw[fU] at h3
   generalize (s.1,set' s.2 (f.Vars+(i:Int)) true)=t at hR1 ⊢
   generalize (s'.1,set' s'.2 (rho f (f.Vars+(i:Int))) true)=t' at hR1 ⊢
   generalize (at' f.Nodes (i:Int)).Args=A at hA ⊢
   induction A generalizing t t' with
   | nil=>exact hR1
   | cons a A ih=>
    have ha:=hA a (by simp)
    have hl:=n4 ha.1.1 v0 ha.1.2 ha.2
    rw[List.foldl_cons,List.foldl_cons]
    exact ih _ _ (ihf a t t' ha.1.1 om (.inr ha.2) om om hR1) (λb hb=>hA b (by simp[hb]))
theorem qr (g:FG f):VR14 f (c9 f) (c9 (trF f)):=by
 have hk:Kp f f.Top:=.inr (dR g f.Nodes.length (Nat.le_refl _)).top
 have hb:=i2 g g.top0 g.top hk
 have v0:=g.v0
 have e:(trF f).Vars+((trF f).Nodes.length:Int)=f.Vars+(cM f f.Nodes.length:Nat):=by rw[kz];rfl
 have hT:=g.top
 have hT0:=g.top0
 unfold c9
 rw[e]
 refine qo g _ _ f.Top _ _ g.top0 g.top hk om om ⟨rfl,?_,?_,λa _ _ _=>by rw[jg,jg],λa _ _=>by rw[jg]⟩
 ·rw[eV om]
 ·rw[eV om]
theorem jP (g:FG f):dU (trF f)=dU f:=by
 have h:=qr g
 unfold dU
 rw[<-h.ev]
 congr 1
 refine List.filter_congr λv hv=>?_
 have hv:=gz.1 hv
 have v0:=g.v0
 have hvv:v<f.Vars:=by have:(trF f).Vars=f.Vars:=rfl;omega
 have:=h.se v hv.1 om (.inl hvv)
 rw[eG hvv] at this
 rw[this]
structure WR (f:GFormula) (q q':List Rat):Prop where
 l1:q.length=f.Vars.toNat+f.Nodes.length
 l2:q'.length=f.Vars.toNat+cM f f.Nodes.length
 eq:∀a:Int,0<=a->a<f.Vars+f.Nodes.length->Kp f a->q.getD a.toNat 0=q'.getD (rho f a).toNat 0
 un:∀a:Int,0<=a->a<f.Vars+f.Nodes.length->¬Kp f a->q.getD a.toNat 0=0
theorem WR.set (g:FG f) {q q':List Rat} (h:WR f q q') {b:Int} (b0:0<=b) (b1:b<f.Vars+f.Nodes.length) (bk:Kp f b) {x x':Rat} (hx:x=x'):WR f (q.set b.toNat x) (q'.set (rho f b).toNat x'):=by
 have hb:=i2 g b0 b1 bk
 have l1:=h.l1
 have l2:=h.l2
 have v0:=g.v0
 refine⟨by rw[List.length_set];exact l1,by rw[List.length_set];exact l2,λa a0 a1 ak=>?_,λa a0 a1 ak=>?_⟩
 ·have hb2:=i2 g a0 a1 ak
  rw[e_ om,e_ om]
  by_cases e:a=b
  ·rw[if_pos (by rw[e]),if_pos (by rw[e]),hx]
  ·rw[if_neg om,if_neg (λhc=>e (n5 ak bk om))]
   exact h.eq a a0 a1 ak
 ·rw[e_ om,if_neg (λhc:a.toNat=b.toNat=>ak (by rw[show a=b by omega];exact bk))]
  exact h.un a a0 a1 ak
theorem WR.addL (g:FG f) {p:Rat}:∀(A:List Int) (q q':List Rat),(∀a∈A,(0<=a/\a<f.Vars+f.Nodes.length)/\Kp f a)->WR f q q'->WR f (Gg.addL q A p) (Gg.addL q' (A.map (rho f)) p)
 | [],_,_,_,h=>h
 | a :: A,q,q',hA,h=>by
  have ha:=hA a (by simp)
  have e:Gg.addL q (a :: A) p=Gg.addL (q.set a.toNat (q.getD a.toNat 0+p)) A p:=rfl
  have e':Gg.addL q' ((a :: A).map (rho f)) p=Gg.addL (q'.set (rho f a).toNat (q'.getD (rho f a).toNat 0+p)) (A.map (rho f)) p:=rfl
  rw[e,e']
  exact WR.addL g A _ _ (λb hb=>hA b (by simp[hb])) (h.set g ha.1.1 ha.1.2 ha.2 (by rw[h.eq a ha.1.1 ha.1.2 ha.2]))
theorem ss (g:FG f):∀k,k<=f.Nodes.length->WR f (wtL f k) (wtL (trF f) (cM f f.Nodes.length-cM f (f.Nodes.length-k)))
 | 0,_=>by
  have hk:Kp f f.Top:=.inr (dR g f.Nodes.length (Nat.le_refl _)).top
  rw[show cM f f.Nodes.length-cM f (f.Nodes.length-0)=0 by rw[Nat.sub_zero];omega,wtL,wtL,kz]
  refine WR.set g (q:=List.replicate (f.Vars.toNat+f.Nodes.length) 0) (q':=List.replicate (f.Vars.toNat+cM f f.Nodes.length) 0) ⟨List.length_replicate,List.length_replicate,λa _ _ _=>by rw[gp,gp],λa _ _ _=>by rw[gp]⟩ g.top0 g.top hk rfl
 | k+1,hk=>by
  have ih:=ss g k om
  have v0:=g.v0
  obtain⟨i,hi⟩:∃i,i=f.Nodes.length-1-k:=⟨_,rfl⟩
  have e1:f.Nodes.length-k=i+1:=om
  have e2:f.Nodes.length-(k+1)=i:=om
  have hil:i<f.Nodes.length:=om
  have hle:=tJ (f:=f) (i:=i+1) (k:=f.Nodes.length) om
  rw[e1] at ih
  rw[e2,wtL,<-hi]
  have en:(f.Vars+(i:Int)).toNat=f.Vars.toNat+i:=om
  by_cases hm:mkF f i
  ·have hs:=lX hm
   rw[show cM f f.Nodes.length-cM f i=(cM f f.Nodes.length-cM f (i+1))+1 by omega,wtL,kz,show cM f f.Nodes.length-1-(cM f f.Nodes.length-cM f (i+1))=cM f i by omega]
   have hw:=ih.eq (f.Vars+i) om om (.inr hm)
   rw[fU,en,show(f.Vars+(cM f i:Nat):Int).toNat=f.Vars.toNat+cM f i by omega] at hw
   have hA:dm (trF f) (cM f i)=(dm f i).map (rho f):=nS hm hil
   unfold ik
   rw[show(trF f).Vars=f.Vars from rfl,hA,List.length_map,<-hw]
   split
   ·exact ih
   ·exact ih.addL g _ _ _ (λa ha=>by have:=ie g hil hm a ha;exact⟨by omega,.inr this.2⟩)
  ·rw[oy hm] at ih
   have hu:=ih.un (f.Vars+i) om om (λhc=>hc.elim (λh=>om) hm)
   rw[en] at hu
   unfold ik
   rw[if_pos (.inl hu)]
   exact ih
theorem tH (g:FG f) {x y:Int} (hx:0<=x/\x<f.Vars) (hy:0<=y/\y<f.Vars):nh (wtL (trF f) (trF f).Nodes.length) x y=nh (wtL f f.Nodes.length) x y:=by
 have h:=ss g f.Nodes.length (Nat.le_refl _)
 rw[Nat.sub_self,show cM f 0=0 from rfl,Nat.sub_zero,<-kz] at h
 have h1:=h.eq x hx.1 om (.inl hx.2)
 have h2:=h.eq y hy.1 om (.inl hy.2)
 rw[eG hx.2] at h1
 rw[eG hy.2] at h2
 unfold nh
 rw[h1,h2]
def addI (u A:List Int):List Int:=A.foldl (λu a=>set' u a (at' u a+1)) u
def usF (f:GFormula) (se:List Bool):Nat->List Int
 | 0=>set' (bG (f.Vars+(f.Nodes.length:Int)) 0) f.Top 1
 | i+1=>if at' se (f.Vars+i)=true then addI (usF f se i) (dm f i) else usF f se i
def rV (u:List Int) (x y:Int):Int:=at' u y-at' u x
theorem i3 {n v:Int}:at' (bG n (0:Int)) v=0:=by
 unfold at' bG
 rw[List.getD_eq_getElem?_getD,List.getElem?_replicate]
 split<;>rfl
theorem mV:∀(A u:List Int),(addI u A).length=u.length
 | [],_=>rfl
 | a :: A,u=>(mV A (set' u a (at' u a+1))).trans cg
theorem sj {u A:List Int} {a:Int}:addI u (A++[a])=set' (addI u A) a (at' (addI u A) a+1):=by simp[addI]
theorem oC {v:Int} (hv:0<=v):∀(A u:List Int),(∀a∈A,0<=a/\a<u.length)->at' u v<=at' (addI u A) v/\at' (addI u A) v<=at' u v+A.length
 | [],_,_=>by simp[addI]
 | a :: A,u,h=>by
  have ha:=h a (by simp)
  have ih:=oC hv A (set' u a (at' u a+1)) (λb hb=>by rw[cg];exact h b (by simp[hb]))
  have e:addI u (a :: A)=addI (set' u a (at' u a+1)) A:=rfl
  rw[da ha hv] at ih
  rw[e,List.length_cons]
  split at ih
  ·rename_i hva;subst hva;omega
  ·omega
theorem jW (g:FG f) {se:List Bool}:∀k,((usF f se k).length:Int)=f.Vars+f.Nodes.length
 | 0=>by
  have:=g.v0
  rw[usF,cg,eV om]
 | k+1=>by
  rw[usF]
  split
  ·rw[mV];exact jW g k
  ·exact jW g k
theorem nQ (g:FG f) {se:List Bool} {v:Int} (hv:0<=v):∀k,k<=f.Nodes.length->0<=at' (usF f se k) v/\at' (usF f se k) v<=1+16*(k:Int)
 | 0,_=>by
  have v0:=g.v0
  have:=g.top0
  have:=g.top
  rw[usF,da ⟨by omega,by rw[eV om];omega⟩ hv,i3]
  split<;>omega
 | k+1,hk=>by
  have ih:=nQ g (se:=se) hv k om
  rw[usF]
  split
  ·have hl:=jW g (se:=se) k
   have h16:=(fN (g.node k om)).len
   have hin:=iB g (show k<f.Nodes.length by omega)
   have:=oC hv (dm f k) (usF f se k) (λa ha=>by have:=hin a ha;omega)
   have h16':(dm f k).length<=16:=h16
   omega
  ·omega
structure UR (f:GFormula) (u u':List Int):Prop where
 l1:(u.length:Int)=f.Vars+f.Nodes.length
 l2:(u'.length:Int)=f.Vars+(cM f f.Nodes.length:Nat)
 eq:∀a:Int,0<=a->a<f.Vars+f.Nodes.length->Kp f a->at' u a=at' u' (rho f a)
theorem UR.set (g:FG f) {u u':List Int} (h:UR f u u') {b:Int} (b0:0<=b) (b1:b<f.Vars+f.Nodes.length) (bk:Kp f b) {x x':Int} (hx:x=x'):UR f (set' u b x) (set' u' (rho f b) x'):=by
 have hb:=i2 g b0 b1 bk
 have l1:=h.l1
 have l2:=h.l2
 refine⟨by rw[cg];exact l1,by rw[cg];exact l2,λa a0 a1 ak=>?_⟩
 have hb2:=i2 g a0 a1 ak
 rw[da om a0,da om hb2.1]
 by_cases e:a=b
 ·rw[if_pos e,if_pos (by rw[e]),hx]
 ·rw[if_neg e,if_neg (λhc=>e (n5 ak bk hc))]
  exact h.eq a a0 a1 ak
theorem UR.addI (g:FG f):∀(A u u':List Int),(∀a∈A,(0<=a/\a<f.Vars+f.Nodes.length)/\Kp f a)->UR f u u'->UR f (Gg.addI u A) (Gg.addI u' (A.map (rho f)))
 | [],_,_,_,h=>h
 | a :: A,u,u',hA,h=>by
  have ha:=hA a (by simp)
  have e:Gg.addI u (a :: A)=Gg.addI (set' u a (at' u a+1)) A:=rfl
  have e':Gg.addI u' ((a :: A).map (rho f))=Gg.addI (set' u' (rho f a) (at' u' (rho f a)+1)) (A.map (rho f)):=rfl
  rw[e,e']
  exact UR.addI g A _ _ (λb hb=>hA b (by simp[hb])) (h.set g ha.1.1 ha.1.2 ha.2 (by rw[h.eq a ha.1.1 ha.1.2 ha.2]))
theorem sH (g:FG f) {se se':List Bool} (hs:∀i:Nat,i<f.Nodes.length->mkF f i->at' se (f.Vars+i)=at' se' (f.Vars+(cM f i:Nat))) (hu:∀i:Nat,i<f.Nodes.length->¬mkF f i->at' se (f.Vars+i)=false):∀k,k<=f.Nodes.length->UR f (usF f se k) (usF (trF f) se' (cM f k))
 | 0,_=>by
  have hk:Kp f f.Top:=.inr (dR g f.Nodes.length (Nat.le_refl _)).top
  have v0:=g.v0
  have e:(trF f).Vars+((trF f).Nodes.length:Int)=f.Vars+(cM f f.Nodes.length:Nat):=by rw[kz];rfl
  rw[cM,usF,usF,e]
  exact UR.set g ⟨eV om,eV om,λa _ _ _=>by rw[i3,i3]⟩ g.top0 g.top hk rfl
 | k+1,hk=>by
  have ih:=sH g hs hu k om
  have hkl:k<f.Nodes.length:=om
  rw[usF]
  by_cases hm:mkF f k
  ·have hA:dm (trF f) (cM f k)=(dm f k).map (rho f):=nS hm hkl
   rw[lX hm,usF,show(trF f).Vars=f.Vars from rfl,<-hs k hkl hm,hA]
   split
   ·exact ih.addI g _ _ _ (λa ha=>by have:=ie g hkl hm a ha;exact⟨by omega,.inr this.2⟩)
   ·exact ih
  ·rw[oy hm,hu k hkl hm,if_neg (by simp)]
   exact ih
theorem sG (g:FG f) {x y:Int} (hx:0<=x/\x<f.Vars) (hy:0<=y/\y<f.Vars):rV (usF (trF f) (c9 (trF f)).2 (trF f).Nodes.length) x y=rV (usF f (c9 f).2 f.Nodes.length) x y:=by
 have ht:=qr g
 have v0:=g.v0
 have h:=sH g (se:=(c9 f).2) (se':=(c9 (trF f)).2) (λi hi hm=>by
  have:=ht.se (f.Vars+i) om om (.inr hm)
  rw[fU] at this
  exact this) (λi hi hm=>ht.un _ om (λhc=>hc.elim (λh=>om) hm)) f.Nodes.length (Nat.le_refl _)
 rw[<-kz] at h
 have h1:=h.eq x hx.1 om (.inl hx.2)
 have h2:=h.eq y hy.1 om (.inl hy.2)
 rw[eG hx.2] at h1
 rw[eG hy.2] at h2
 unfold rV
 rw[h1,h2]
theorem pC (ht:rng f.Top) {Q:List Int->Option Int->Prop} {r:List Int} (h0:kY f≠0->Q [] (some (kY f))) (hr:FG f->VI f (c9 f)->r.Perm (dU f)/\gP (rV (usF f (c9 f).2 f.Nodes.length)) (dU f) r) (h1:FG f->Q r none):eY f Q:=by
 refine eE ht (tB (λhc=>by rw[gD hc];exact h0 hc) (λhz=>?_))
 have g:=jQ.1 hz
 have v0:=g.v0;have v24:=g.v24;have n128:=g.n128;have t0:=g.top0;have tt:=g.top
 refine qX g λhV=>?_
 obtain⟨hp,hS⟩:=hr g hV
 have hl:=hV.len
 have hrl:((bG (f.Vars+(f.Nodes.length:Int)) (0:Int)).length:Int)=f.Vars+f.Nodes.length:=eV om
 refine⟨by unfold rng;omega,⟨by omega,by omega,by omega,by omega⟩,by omega,by rw[i3];unfold rng;omega,by omega,?_⟩
 rw[i3,Int.zero_add]
 refine gX (n:=f.Nodes.length) (λi=>((i:Int),usF f (c9 f).2 i)) (λy=>y.1) 0 (λi=>by simp) rfl (λi next hi hn=>?_) (λnext=>?_)
 ·have hin:=iB g hi
  have h16:=(fN (g.node i hi)).len
  have hul:=jW g (se:=(c9 f).2) i
  refine condT (λ_=>⟨by omega,by unfold rng;omega,by omega,cx (λhb=>⟨by unfold rng;omega,?_⟩) (λhb=>?_)⟩) (λhc=>absurd (show(i:Int)<f.Nodes.length by omega) hc)
  ·have hb':¬at' (c9 f).2 (f.Vars+i)=true:=by simpa using hb
   rw[usF,if_neg hb'] at hn
   exact hn
  ·have hb':at' (c9 f).2 (f.Vars+i)=true:=by simpa using hb
   rw[usF,if_pos hb'] at hn
   refine gX (n:=(at' f.Nodes (i:Int)).Args.length) (λj=>((j:Int),addI (usF f (c9 f).2 i) ((at' f.Nodes (i:Int)).Args.take j))) (λy=>y.1) 0 (λj=>by simp) rfl (λj next2 hj hn2=>?_) (λnext2=>?_)
   ·have ha:=hin _ (lB hj)
    have hal:=mV ((at' f.Nodes (i:Int)).Args.take j) (usF f (c9 f).2 i)
    have hbd:=nQ g (se:=(c9 f).2) ha.1 i om
    have hb2:=oC ha.1 ((at' f.Nodes (i:Int)).Args.take j) (usF f (c9 f).2 i) (λa haa=>by have:=hin a (List.mem_of_mem_take haa);omega)
    rw[List.length_take] at hb2
    rw[gl hj,sj] at hn2
    exact condT (λ_=>⟨by omega,by omega,by unfold rng;omega,by omega,by unfold rng;omega,hn2⟩) (λhc=>absurd (show(j:Int)<_ by omega) hc)
   ·refine condT (λhc=>absurd hc om) (λ_=>⟨by unfold rng;omega,?_⟩)
    rw[List.take_length]
    exact hn
 ·refine condT (λhc=>absurd hc om) (λ_=>wb (hS _ (λx hx y hy K hK=>?_) _ ⟨hp.length_eq,hp.length_eq,h1 g⟩))
  have hx:=(ij hV).1 hx
  have hy:=(ij hV).1 hy
  have hul:=jW g (se:=(c9 f).2) f.Nodes.length
  have b1:=nQ g (se:=(c9 f).2) hx.1 f.Nodes.length (Nat.le_refl _)
  have b2:=nQ g (se:=(c9 f).2) hy.1 f.Nodes.length (Nat.le_refl _)
  exact⟨by omega,by omega,by unfold rng;omega,hK⟩
theorem ma {c c':Int->Int->Int} {l r:List Int} (h:gP c l r) (hc:∀x∈l,∀y∈l,c' x y=c x y):gP c' l r:=λC hC Q hQ=>h C (λx hx y hy K hK=>hC x hx y hy K (by rw[hc x hx y hy];exact hK)) Q hQ
theorem oU (c:Int->Int->Int) {l:List Int} (h:l.length<=24):∃r:List Int,r.Perm l/\gP c l r:=t8 c om
theorem mz {r:List Int} {n:Nat} (h:r.Perm (fx n)) (hn:n<=24):gJ r (n:Int)=0:=by
 have hl:r.length=n:=by rw[h.length_eq,ep]
 have hO:Or14 r:=by
  refine⟨by omega,λi hi=>?_,λi j hi hj he=>?_⟩
  ·have:=gz.1 (h.mem_iff.1 (lB hi))
   omega
  ·have hd:r.Nodup:=h.nodup_iff.2 qO
   rw[jA hi,jA hj] at he
   exact(List.getElem_inj hd).1 he
 rw[<-hl]
 exact n8 hO
end
theorem jy {Q:Bool->Prop} (h:Q true):er Q:=by
 unfold er eD
 show dp rQ _
 refine oE (by unfold rng;decide) (λhc=>absurd pq hc) (λ_ _=>?_)
 show cH rQ _
 refine jS (r:=jT rQ) (by unfold rng;decide) (λhc=>absurd pq hc) (λ_=>pF (by decide) (by decide)) (λ_=>?_)
 refine ql (λhc=>absurd rP hc) (λ_=>?_)
 have e:jT rQ=[2,0,1]:=by decide +kernel
 rw[qd,e,rO]
 exact cx (λ_=>cx (λ_=>cx (λ_=>cS (λ_=>fQ (by decide) (cx (λ_=>fQ (by decide) h) (λhc=>by cases hc))) (λhc=>absurd rfl hc)) (λhc=>by cases hc)) (λhc=>by cases hc)) (λhc=>by cases hc)
end Go.Gg
