/- Tables of nodes: the program's functions that make nodes and choose. Conditions: none. -/
import Derived.Test.YtnjgdkfhgmebjaaGreatMa
import Derived.Test.YtnjgdkfhgmebjaaGreatWa
open List (append_assoc length_append length_cons length_drop length_map length_singleton length_take map_append map_congr_left map_cons map_map map_nil mem_cons pairwise_map range range' range_succ sum_append sum_cons sum_nil take_length take_of_length_le)
open Int (toNat toNat_natCast)
open Nat (add_zero le_refl le_trans lt_or_ge mod_lt mul_comm mul_le_mul_right pow_pos pow_succ succ_mul)
open Option (getD isSome)
namespace Go.Gg
structure TS (o place:List Int) (nodes:List GDNode) (unique memo:GMap Int):Prop where
 ord:Or14 o
 pl:place.length=o.length
 pl2:∀v:Nat,v<o.length->at' place (v:Int)=(dw o v:Int)
 tb:TB o.length (dw o) nodes unique memo
abbrev lvO (o:List Int) (nodes:List GDNode) (r:Int):Nat:=lvl o.length (dw o) nodes r.toNat
section
variable {o place:List Int} {nodes:List GDNode} {unique memo:GMap Int}
theorem TS.wt (h:TS o place nodes unique memo):WT o.length (dw o) nodes:=h.tb.wt
theorem TS.at (h:TS o place nodes unique memo) {r:Int} (hr:Vd nodes r) (h2:2<=r):nodes[(r-2).toNat]? = some (at' nodes (r-2))/\(0<=(at' nodes (r-2)).H/\(at' nodes (r-2)).H<o.length)/\(0<=(at' nodes (r-2)).W/\(at' nodes (r-2)).W<r)/\(0<=(at' nodes (r-2)).X/\(at' nodes (r-2)).X<r)/\
  lvO o nodes r=dw o (at' nodes (r-2)).H.toNat/\lvO o nodes r<lvO o nodes (at' nodes (r-2)).W/\lvO o nodes r<lvO o nodes (at' nodes (r-2)).X:=by
 have h0:=hr.1
 have h1:=hr.2
 have hx:=Ef (N:=nodes) (i:=(r-2).toNat) om
 rw[show(((r-2).toNat:Nat):Int)=r-2 by omega] at hx
 obtain⟨a,b,c,d,e,f⟩:=h.wt.nd _ _ hx
 have hl:lvO o nodes r=dw o (at' nodes (r-2)).H.toNat:=by
  have:=nV (n:=o.length) (lev:=dw o) hx
  rw[show 2+(r-2).toNat=r.toNat by omega] at this
  exact this
 exact⟨hx,a,⟨om,om⟩,⟨om,om⟩,hl,by rw[hl];exact e,by rw[hl];exact f⟩
theorem t8 (h:TS o place nodes unique memo) (hb:nodes.length<=1099511627776) {r:Int} (hr:Vd nodes r) {Q:Int->Prop} (hQ:Q (lvO o nodes r:Int)):bD r o place nodes unique memo Q:=by
 have h0:=hr.1
 have h1:=hr.2
 refine condT (λh2=>?_) (λh2=>?_)
 ·rw[show lvO o nodes r=o.length from iW om] at hQ;exact hQ
 ·obtain⟨_,a,_,_,e,_,_⟩:=h.at hr om
  have hp:=h.pl
  have:=h.pl2 (at' nodes (r-2)).H.toNat om
  rw[show(((at' nodes (r-2)).H.toNat:Nat):Int)=(at' nodes (r-2)).H by omega] at this
  refine⟨zRg,⟨om,om⟩,⟨om,om⟩,?_⟩
  rw[this,<-e]
  exact hQ
def kid (o:List Int) (nodes:List GDNode) (r:Int) (L:Nat) (b:Bool):Int:=if lvO o nodes r=L then (bif b then (at' nodes (r-2)).X else (at' nodes (r-2)).W) else r
theorem AH (h:TS o place nodes unique memo) (hb:nodes.length<=1099511627776) {r:Int} (hr:Vd nodes r) {L:Nat} (hL:L<o.length) {Q:Int->Int->Prop} (hQ:Q (kid o nodes r L false) (kid o nodes r L true)):bN r (L:Int) o place nodes unique memo Q:=by
 have h0:=hr.1
 have h1:=hr.2
 refine t8 h hb hr (dg (λhc=>?_) (λhc=>?_))
 ·rw[kid,kid,if_neg om,if_neg om] at hQ;exact hQ
 ·have h2:2<=r:=by
   by_cases h2:r<2
   ·rw[show lvO o nodes r=o.length from iW om] at hc;omega
   ·omega
  rw[kid,kid,if_pos om,if_pos om] at hQ
  exact⟨zRg,⟨om,om⟩,hQ⟩
theorem GU (h:TS o place nodes unique memo) {r:Int} (hr:Vd nodes r) {L:Nat} (hL:L<o.length) (b:Bool):Vd nodes (kid o nodes r L b):=by
 have h0:=hr.1
 have h1:=hr.2
 unfold kid
 split
 ·rename_i hc
  have h2:2<=r:=by
   by_cases h2:r<2
   ·rw[show lvO o nodes r=o.length from iW om] at hc;omega
   ·omega
  obtain⟨_,_,c,d,_⟩:=h.at hr h2
  cases b
  ·exact⟨c.1,by simp only[cond_false];omega⟩
  ·exact⟨d.1,by simp only[cond_true];omega⟩
 ·exact hr
theorem Fd (h:TS o place nodes unique memo) {r:Int} (hr:Vd nodes r) {L:Nat} (hL:L<o.length) (hLr:L<=lvO o nodes r) (b:Bool):L+1<=lvO o nodes (kid o nodes r L b):=by
 have h0:=hr.1
 have h1:=hr.2
 unfold kid
 split
 ·rename_i hc
  have h2:2<=r:=by
   by_cases h2:r<2
   ·rw[show lvO o nodes r=o.length from iW om] at hc;omega
   ·omega
  obtain⟨_,_,_,_,_,f,g⟩:=h.at hr h2
  cases b
  ·simp only[cond_false];omega
  ·simp only[cond_true];omega
 ·rename_i hc;omega
theorem GV (h:TS o place nodes unique memo) {r:Int} (hr:Vd nodes r) {v:Nat} (hv:v<o.length) (hLr:dw o v<=lvO o nodes r) (b:Bool) (σ:Asg):dn nodes (kid o nodes r (dw o v) b) σ=dn nodes r (cz σ v b):=by
 have h0:=hr.1
 have h1:=hr.2
 have hlv:=(h.ord.at_lev hv).1
 unfold kid
 split
 ·rename_i hc
  have h2:2<=r:=by
   by_cases h2:r<2
   ·rw[show lvO o nodes r=o.length from iW om] at hc;omega
   ·omega
  obtain⟨hx,a,c,d,e,_,_⟩:=h.at hr h2
  have hvv:(at' nodes (r-2)).H.toNat=v:=h.ord.ord.lv.inj _ _ om hv om
  have:=h.wt.den_cof hx σ b
  rw[hvv,show 2+(r-2).toNat=r.toNat by omega] at this
  unfold dn
  rw[this]
  cases b<;>rfl
 ·rename_i hc
  exact(h.wt.den_set h1 (by show dw o v<lvO o nodes r;omega) σ).symm
theorem Fu {a b:Int}:(a == b)=decide (a=b):=by rw[Bool.eq_iff_iff];simp
theorem Gk (h:TS o place nodes unique memo) {r:Int} (hr:Vd nodes r) {l:Nat} (hl:l<=lvl o.length (dw o) nodes r.toNat):Dep (dn nodes r) ((jI o).drop l):=
 (h.wt.dep h.ord.ord hr.2).sub λv hv=>h.ord.ord.mem.2 ⟨(h.ord.ord.mem.1 hv).1,by have:=(h.ord.ord.mem.1 hv).2;omega⟩
theorem vk (h:TS o place nodes unique memo) {r:Int} (hr:Vd nodes r) {l:Nat} (hl:l<=o.length) (hd:Dep (dn nodes r) ((jI o).drop l)):l<=lvO o nodes r:=h.wt.lvl_ge h.ord.ord hr.2 hl hd
theorem Es (h:TS o place nodes unique memo) (hb:nodes.length+1<=1099511627776) {v lo hi:Int} (hv:0<=v/\v<o.length) (hlo:Vd nodes lo) (hhi:Vd nodes hi) (h1:dw o v.toNat<lvO o nodes lo) (h2:dw o v.toNat<lvO o nodes hi) :
  ∃nodes' unique' r,(TS o place nodes' unique' memo/\Pre nodes nodes'/\Vd nodes' r/\(∀σ,dn nodes' r σ=bif σ v.toNat then dn nodes hi σ else dn nodes lo σ)/\nodes'.length<=nodes.length+1)/\
   ∀Q:List GDNode->GMap Int->Int->Prop,Q nodes' unique' r->cM v lo hi o place nodes unique memo Q:=by
 by_cases he:lo=hi
 ·exact⟨nodes,unique,lo,⟨h,Pre.refl _,hlo,λσ=>by rw[<-he];cases σ v.toNat<;>rfl,om⟩,λQ hQ=>bV (λ_=>hQ) (λhc=>absurd he hc)⟩
 cases hm:cP unique [v,lo,hi] with
 | some r=>
  obtain⟨a,b⟩:=h.tb.make_old hm
  refine⟨nodes,unique,r,⟨h,Pre.refl _,a,b,om⟩,λQ hQ=>bV (λhc=>absurd hc he) (λ_=>bg (λhc=>?_) (λ_=>?_))⟩
  ·rw[hm] at hc;cases hc
  ·rw[hm];exact hQ
 | none=>
  obtain⟨a,b,c⟩:=h.tb.make_new hv hlo hhi he h1 h2 hm
  refine⟨_,_,_,⟨⟨h.ord,h.pl,h.pl2,a⟩,⟨_,rfl⟩,b,c,by simp⟩,λQ hQ=>bV (λhc=>absurd hc he) (λ_=>bg (λ_=>⟨zRg,by rw[length_append,length_singleton];omega,hQ⟩) (λhc=>?_))⟩
  rw[hm] at hc;cases hc
theorem Ew:∀(k fu:Nat) {nodes:List GDNode} {unique memo:GMap Int} {c a b:Int},k<fu->TS o place nodes unique memo->nodes.length+2^k<=1099511627776->Vd nodes c->Vd nodes a->Vd nodes b->
  o.length<=k+lvO o nodes c->o.length<=k+lvO o nodes a->o.length<=k+lvO o nodes b->
  ∃nodes' unique' memo' r,(TS o place nodes' unique' memo'/\Pre nodes nodes'/\Vd nodes' r/\(∀σ,dn nodes' r σ=bif dn nodes c σ then dn nodes a σ else dn nodes b σ)/\nodes'.length+1<=nodes.length+2^k)/\
   ∀Q:List GDNode->GMap Int->GMap Int->Int->Prop,Q nodes' unique' memo' r->aH fu c a b o place nodes unique memo Q:=by
 intro k
 induction k with
 | zero=>
  intro fu nodes unique memo c a b hfu h hb hc ha hb' lc la lb
  obtain⟨g,rfl⟩:∃g,fu=g+1:=⟨fu-1,om⟩
  have hc0:=hc.1
  have hc2:c<2:=by
   by_cases h2:c<2
   ·exact h2
   ·obtain⟨_,x,_,_,e,_⟩:=h.at hc om
    have:=(h.ord.at_lev (v:=(at' nodes (c-2)).H.toNat) om).1
    omega
  rcases (show c=0\/c=1 by omega) with rfl | rfl
  ·refine⟨nodes,unique,memo,b,⟨h,Pre.refl _,hb',λσ=>by rw[dn0];rfl,by simp⟩,λQ hQ=>?_⟩
   rw[aH]
   refine⟨λ_=>False,⟨λx=>x=decide (a=b),bV (λhh=>by cases hh) (λ_=>Fu),?_⟩,λ_ hh=>hh.elim⟩
   rintro x rfl
   refine condT (λhe=>by rw[he];exact hQ) (λ_=>bV (λ_=>hQ) (λhh=>absurd rfl hh))
  ·refine⟨nodes,unique,memo,a,⟨h,Pre.refl _,ha,λσ=>by rw[dn1];rfl,by simp⟩,λQ hQ=>?_⟩
   rw[aH]
   refine⟨λ_=>False,⟨λx=>x=true,bV (λ_=>rfl) (λhh=>absurd rfl hh),?_⟩,λ_ hh=>hh.elim⟩
   rintro x rfl
   exact bg (λ_=>hQ) (λhh=>by cases hh)
 | succ k ih=>
  intro fu nodes unique memo c a b hfu h hb hc ha hb' lc la lb
  obtain⟨g,rfl⟩:∃g,fu=g+1:=⟨fu-1,om⟩
  have hpk:0<2^k:=pow_pos om
  rw[pow_succ] at hb
  have h1:1<=2^(k+1):=pow_pos om
  have hc0:=hc.1
  by_cases q1:c=1\/a=b
  ·refine⟨nodes,unique,memo,a,⟨h,Pre.refl _,ha,λσ=>?_,om⟩,λQ hQ=>?_⟩
   ·rcases q1 with rfl | rfl
    ·rw[dn1];rfl
    ·cases dn nodes c σ<;>rfl
   ·rw[aH]
    refine⟨λ_=>False,⟨λx=>x=true,bV (λ_=>rfl) (λhh=>by simpa using q1.resolve_left hh),?_⟩,λ_ hh=>hh.elim⟩
    rintro x rfl
    exact bg (λ_=>hQ) (λhh=>by cases hh)
  by_cases q2:c=0
  ·refine⟨nodes,unique,memo,b,⟨h,Pre.refl _,hb',λσ=>by rw[q2,dn0];rfl,om⟩,λQ hQ=>?_⟩
   rw[aH]
   refine⟨λ_=>False,⟨λx=>x=false,bV (λhh=>absurd (.inl hh) q1) (λ_=>by simpa using λhh=>q1 (.inr hh)),?_⟩,λ_ hh=>hh.elim⟩
   rintro x rfl
   exact bg (λhh=>by cases hh) (λ_=>bV (λ_=>hQ) (λhh=>absurd q2 hh))
  by_cases q3:a=1/\b=0
  ·refine⟨nodes,unique,memo,c,⟨h,Pre.refl _,hc,λσ=>by rw[q3.1,q3.2,dn0,dn1];cases dn nodes c σ<;>rfl,om⟩,λQ hQ=>?_⟩
   rw[aH]
   refine⟨λ_=>False,⟨λx=>x=false,bV (λhh=>absurd (.inl hh) q1) (λ_=>by simpa using λhh=>q1 (.inr hh)),?_⟩,λ_ hh=>hh.elim⟩
   rintro x rfl
   exact bg (λhh=>by cases hh) (λ_=>bV (λhh=>absurd hh q2) (λ_=>bV (λ_=>bV (λ_=>hQ) (λhh=>absurd q3.2 hh)) (λhh=>absurd q3.1 hh)))
  have enter:∀Q:List GDNode->GMap Int->GMap Int->Int->Prop,
    aq (isSome (cP memo [c,a,b]))
    (Q nodes unique memo (getD (cP memo [c,a,b]) 0))
    (bD c o place nodes unique memo λr=>
    bD a o place nodes unique memo λr1=>
    bD b o place nodes unique memo λr2=>
    bN c (min (min r r1) r2) o place nodes unique memo λr3 r4=>
    bN a (min (min r r1) r2) o place nodes unique memo λr5 r6=>
    bN b (min (min r r1) r2) o place nodes unique memo λr7 r8=>
    aH g r3 r5 r7 o place nodes unique memo λu u1 u2 lo=>
    aH g r4 r6 r8 o place u u1 u2 λu3 u4 u5 hi=>
    ((0:Int)<=(min (min r r1) r2)/\(min (min r r1) r2)<(o.length:Int))/\
    cM (at' o (min (min r r1) r2)) lo hi o place u3 u4 u5 λu6 u7 r9=>
    Q u6 u7 (mput u5 [c,a,b] r9) r9)->aH (g+1) c a b o place nodes unique memo Q:=λQ hq=>by
   rw[aH]
   refine⟨λ_=>True,⟨λx=>x=false,bV (λhh=>absurd (.inl hh) q1) (λ_=>by simpa using λhh=>q1 (.inr hh)),?_⟩,λ_ _=>hq⟩
   rintro x rfl
   exact bg (λhh=>by cases hh) (λ_=>bV (λhh=>absurd hh q2) (λ_=>bV (λq4=>bV (λhh=>absurd ⟨q4,hh⟩ q3) (λ_=>trivial)) (λ_=>trivial)))
  cases hm:cP memo [c,a,b] with
  | some r=>
   obtain⟨_,m2,m3⟩:=h.tb.me c a b r hm
   refine⟨nodes,unique,memo,r,⟨h,Pre.refl _,m2,m3,om⟩,λQ hQ=>enter Q ?_⟩
   rw[hm]
   exact bg (λ_=>hQ) (λhh=>by cases hh)
  | none=>
   have hc2:2<=c:=om
   obtain⟨_,cv,_,_,ce,_⟩:=h.at hc hc2
   have clv:=(h.ord.at_lev (v:=(at' nodes (c-2)).H.toNat) om).1
   generalize hL:min (min (lvO o nodes c) (lvO o nodes a)) (lvO o nodes b)=L
   have hLn:L<o.length:=om
   have hLI:min (min (lvO o nodes c:Int) (lvO o nodes a:Int)) (lvO o nodes b:Int)=(L:Int):=om
   have hbn:nodes.length<=1099511627776:=om
   obtain⟨v,hv⟩:∃v:Nat,at' o (L:Int)=v:=⟨(at' o (L:Int)).toNat,by have:=h.ord.rg L hLn;omega⟩
   have hvn:v<o.length:=by have:=h.ord.rg L hLn;omega
   have hvL:dw o v=L:=by have:=h.ord.lev_at hLn;rwa[hv,toNat_natCast] at this
   have kv:=λ(r:Int) (hr:Vd nodes r) (b:Bool)=>GU h hr hLn b
   have kl:=λ(r:Int) (hr:Vd nodes r) (hl:L<=lvO o nodes r) (b:Bool)=>Fd h hr hLn hl b
   have kd:=λ(r:Int) (hr:Vd nodes r) (hl:L<=lvO o nodes r) (b:Bool) (σ:Asg)=>by
    have:=GV h hr hvn (by rw[hvL];exact hl) b σ
    rwa[hvL] at this
   have lC:L<=lvO o nodes c:=om
   have lA:L<=lvO o nodes a:=om
   have lB:L<=lvO o nodes b:=om
   obtain⟨n1,u1,m1,lo,⟨t1,p1,v1,d1,s1⟩,w1⟩:=ih g om h om (kv c hc false) (kv a ha false) (kv b hb' false) (by have:=kl c hc lC false;omega) (by have:=kl a ha lA false;omega) (by have:=kl b hb' lB false;omega)
   have lv1:∀r b,Vd nodes r->L<=lvO o nodes r->L+1<=lvO o n1 (kid o nodes r L b):=λr b hr hl=>by
    show L+1<=lvl o.length (dw o) n1 (kid o nodes r L b).toNat
    rw[Pre.lvl (kv r hr b) p1];exact kl r hr hl b
   obtain⟨n2,u2,m2,hi,⟨t2,p2,v2,d2,s2⟩,w2⟩:=ih g om t1 om ((kv c hc true).pre p1) ((kv a ha true).pre p1) ((kv b hb' true).pre p1) (by have:=lv1 c true hc lC;omega) (by have:=lv1 a true ha lA;omega) (by have:=lv1 b true hb' lB;omega)
   have v1':=v1.pre p2
   have dlo:∀σ,dn n2 lo σ=bif dn nodes c (cz σ v false) then dn nodes a (cz σ v false) else dn nodes b (cz σ v false):=λσ=>by
    rw[gi v1 p2,d1,kd c hc lC,kd a ha lA,kd b hb' lB]
   have dhi:∀σ,dn n2 hi σ=bif dn nodes c (cz σ v true) then dn nodes a (cz σ v true) else dn nodes b (cz σ v true):=λσ=>by
    rw[d2,gi (kv c hc true) p1,gi (kv a ha true) p1,gi (kv b hb' true) p1,kd c hc lC,kd a ha lA,kd b hb' lB]
   have dep:∀(r:Int) (hr:Vd nodes r),L<=lvO o nodes r->∀(b:Bool) (σ σ':Asg),(∀w∈(jI o).drop (L+1),σ w=σ' w)->dn nodes r (cz σ v b)=dn nodes r (cz σ' v b):=λr hr hl b σ σ' hh=>by
    have:=Gk h hr hl
    have hdr:(jI o).drop L=v :: (jI o).drop (L+1):=by have:=h.ord.ord.drop hvn;rwa[hvL] at this
    rw[hdr] at this
    exact this.set σ σ' hh
   have llo:L+1<=lvO o n2 lo:=vk t2 v1' om λσ σ' hh=>by
    simp only[dlo]
    rw[dep c hc lC false σ σ' hh,dep a ha lA false σ σ' hh,dep b hb' lB false σ σ' hh]
   have lhi:L+1<=lvO o n2 hi:=vk t2 v2 om λσ σ' hh=>by
    simp only[dhi]
    rw[dep c hc lC true σ σ' hh,dep a ha lA true σ σ' hh,dep b hb' lB true σ σ' hh]
   obtain⟨n3,u3,r,⟨t3,p3,v3,d3,s3⟩,w3⟩:=Es t2 om (v:=(v:Int)) ⟨om,om⟩ v1' v2 (by rw[toNat_natCast,hvL];omega) (by rw[toNat_natCast,hvL];omega)
   have p13:=(p1.trans p2).trans p3
   have hres:∀σ,dn n3 r σ=bif dn nodes c σ then dn nodes a σ else dn nodes b σ:=λσ=>by
    rw[d3,toNat_natCast]
    cases hs:σ v
    ·rw[cond_false,dlo,show cz σ v false=σ by rw[<-hs];exact tW]
    ·rw[cond_true,dhi,show cz σ v true=σ by rw[<-hs];exact tW]
   refine⟨n3,u3,mput m2 [c,a,b] r,r,⟨⟨t3.ord,t3.pl,t3.pl2,t3.tb.memo_put (hc.pre p13) (ha.pre p13) (hb'.pre p13) v3 (λσ=>by rw[gi hc p13,gi ha p13,gi hb' p13];exact hres σ)⟩,p13,v3,hres,by rw[pow_succ];omega⟩,λQ hQ=>enter Q ?_⟩
   rw[hm]
   refine bg (λhh=>by cases hh) (λ_=>t8 h hbn hc (t8 h hbn ha (t8 h hbn hb' ?_)))
   rw[hLI]
   refine AH h hbn hc hLn (AH h hbn ha hLn (AH h hbn hb' hLn (w1 _ (w2 _ ⟨⟨om,om⟩,?_⟩))))
   rw[hv]
   exact w3 _ hQ
end
section
variable {o place:List Int} {nodes:List GDNode} {unique memo:GMap Int}
structure After (o place:List Int) (nodes nodes':List GDNode) (unique' memo':GMap Int) (r:Int) (f:Asg->Bool) (c:Nat):Prop where
 ts:TS o place nodes' unique' memo'
 pre:Pre nodes nodes'
 vd:Vd nodes' r
 dn:dn nodes' r=f
 le:nodes'.length<=nodes.length+c
theorem pk (h:TS o place nodes unique memo) (hb:nodes.length+2^o.length<=1099511627776) {c a b:Int} (hc:Vd nodes c) (ha:Vd nodes a) (hb':Vd nodes b) :
  ∃nodes' unique' memo' r,After o place nodes nodes' unique' memo' r (λσ=>bif dn nodes c σ then dn nodes a σ else dn nodes b σ) (2^o.length)/\
   ∀Q:List GDNode->GMap Int->GMap Int->Int->Prop,Q nodes' unique' memo' r->∃fu,aH fu c a b o place nodes unique memo Q:=by
 obtain⟨n1,u1,m1,r,⟨a1,a2,a3,a4,a5⟩,w⟩:=Ew o.length (o.length+1) om h hb hc ha hb' om om om
 exact⟨n1,u1,m1,r,⟨a1,a2,a3,funext a4,om⟩,λQ hQ=>⟨o.length+1,w Q hQ⟩⟩
theorem Ii (h:TS o place nodes unique memo) (hb:nodes.length+2^o.length<=1099511627776) {a b:Int} (ha:Vd nodes a) (hb':Vd nodes b) :
  ∃nodes' unique' memo' r,After o place nodes nodes' unique' memo' r (λσ=>dn nodes a σ && dn nodes b σ) (2^o.length)/\
   ∀Q:List GDNode->GMap Int->GMap Int->Int->Prop,Q nodes' unique' memo' r->d4 a b o place nodes unique memo Q:=by
 obtain⟨n1,u1,m1,r,h1,w⟩:=pk h hb ha hb' vd0
 refine⟨n1,u1,m1,r,⟨h1.ts,h1.pre,h1.vd,by rw[h1.dn,dn0];funext σ;cases dn nodes a σ<;>rfl,h1.le⟩,λQ hQ=>w Q hQ⟩
theorem IC (h:TS o place nodes unique memo) (hb:nodes.length+2^o.length<=1099511627776) {a b:Int} (ha:Vd nodes a) (hb':Vd nodes b) :
  ∃nodes' unique' memo' r,After o place nodes nodes' unique' memo' r (λσ=>dn nodes a σ || dn nodes b σ) (2^o.length)/\
   ∀Q:List GDNode->GMap Int->GMap Int->Int->Prop,Q nodes' unique' memo' r->eC a b o place nodes unique memo Q:=by
 obtain⟨n1,u1,m1,r,h1,w⟩:=pk h hb ha vd1 hb'
 refine⟨n1,u1,m1,r,⟨h1.ts,h1.pre,h1.vd,by rw[h1.dn,dn1];funext σ;cases dn nodes a σ<;>rfl,h1.le⟩,λQ hQ=>w Q hQ⟩
theorem F7 (h:TS o place nodes unique memo) (hb:nodes.length+2^o.length<=1099511627776) {a:Int} (ha:Vd nodes a) :
  ∃nodes' unique' memo' r,After o place nodes nodes' unique' memo' r (λσ=>!dn nodes a σ) (2^o.length)/\
   ∀Q:List GDNode->GMap Int->GMap Int->Int->Prop,Q nodes' unique' memo' r->dY a o place nodes unique memo Q:=by
 obtain⟨n1,u1,m1,r,h1,w⟩:=pk h hb ha vd0 vd1
 refine⟨n1,u1,m1,r,⟨h1.ts,h1.pre,h1.vd,by rw[h1.dn,dn0,dn1];funext σ;cases dn nodes a σ<;>rfl,h1.le⟩,λQ hQ=>w Q hQ⟩
theorem Ig (h:TS o place nodes unique memo) (hb:nodes.length+2*2^o.length<=1099511627776) {a b:Int} (ha:Vd nodes a) (hb':Vd nodes b) :
  ∃nodes' unique' memo' r,After o place nodes nodes' unique' memo' r (λσ=>dn nodes a σ != dn nodes b σ) (2*2^o.length)/\
   ∀Q:List GDNode->GMap Int->GMap Int->Int->Prop,Q nodes' unique' memo' r->dX a b o place nodes unique memo Q:=by
 obtain⟨n1,u1,m1,r1,h1,w1⟩:=F7 h om hb'
 have:=h1.le
 obtain⟨n2,u2,m2,r,h2,w2⟩:=pk h1.ts om (ha.pre h1.pre) h1.vd (hb'.pre h1.pre)
 have:=h2.le
 refine⟨n2,u2,m2,r,⟨h2.ts,h1.pre.trans h2.pre,h2.vd,?_,om⟩,λQ hQ=>w1 _ (w2 Q hQ)⟩
 rw[h2.dn,h1.dn,gi ha h1.pre,gi hb' h1.pre]
 funext σ
 show(bif dn nodes a σ then !dn nodes b σ else dn nodes b σ)=_
 cases dn nodes a σ<;>cases dn nodes b σ<;>rfl
theorem FK (h:TS o place nodes unique memo) (hb:nodes.length+1<=1099511627776) {v:Int} (hv:0<=v/\v<o.length) :
  ∃nodes' unique' r,After o place nodes nodes' unique' memo r (λσ=>σ v.toNat) 1/\
   ∀Q:List GDNode->GMap Int->Int->Prop,Q nodes' unique' r->dd v o place nodes unique memo Q:=by
 have hl:=(h.ord.at_lev (v:=v.toNat) om).1
 obtain⟨n1,u1,r,⟨a1,a2,a3,a4,a5⟩,w⟩:=Es h hb hv vd0 vd1 (by show _<lvl _ _ _ 0;rw[iW om];exact hl) (by show _<lvl _ _ _ 1;rw[iW om];exact hl)
 refine⟨n1,u1,r,⟨a1,a2,a3,?_,a5⟩,λQ hQ=>w Q hQ⟩
 funext σ
 rw[a4,dn0,dn1]
 cases σ v.toNat<;>rfl
theorem GR {V:Type} {m:GMap V} {k:List Int} {v:V}:(mput m k v).n<=m.n+1:=by
 unfold mput
 dsimp only
 cases (m.f k).isSome
 ·exact le_refl _
 ·exact Nat.le_succ _
theorem CE (h:TS o place nodes unique memo) (hb:nodes.length<=1099511627776):∀(k fu:Nat) {seen:GMap Bool} {r most:Int},k<fu->Vd nodes r->o.length<=k+lvO o nodes r->
  ∃seen':GMap Bool,seen'.n+1<=seen.n+2^k/\∀Q:GMap Bool->Prop,Q seen'->aT fu r most seen o place nodes unique memo Q:=by
 intro k
 induction k with
 | zero=>
  intro fu seen r most hfu hr hk
  obtain⟨f,rfl⟩:∃f,fu=f+1:=⟨fu-1,om⟩
  refine⟨seen,by simp,λQ hQ=>?_⟩
  rw[aT]
  refine condT (λ_=>hQ) (λhc=>?_)
  obtain⟨_,x,_,_,e,_⟩:=h.at hr om
  have:=(h.ord.at_lev (v:=(at' nodes (r-2)).H.toNat) om).1
  omega
 | succ k ih=>
  intro fu seen r most hfu hr hk
  obtain⟨f,rfl⟩:∃f,fu=f+1:=⟨fu-1,om⟩
  have hpk:0<2^k:=pow_pos om
  rw[pow_succ]
  by_cases h2:r<2
  ·refine⟨seen,om,λQ hQ=>?_⟩
   rw[aT]
   exact condT (λ_=>hQ) (λhc=>absurd h2 hc)
  by_cases h3:getD (cP seen [r]) false=true
  ·refine⟨seen,om,λQ hQ=>?_⟩
   rw[aT]
   exact condT (λ_=>hQ) (λ_=>bg (λ_=>hQ) (λhc=>by rw[h3] at hc;cases hc))
  by_cases h4:most<((GMap.n seen:Nat):Int)
  ·refine⟨seen,om,λQ hQ=>?_⟩
   rw[aT]
   exact condT (λ_=>hQ) (λ_=>bg (λ_=>hQ) (λ_=>condT (λ_=>hQ) (λhc=>absurd h4 hc)))
  obtain⟨_,_,xl,xh,_,xlo,xhi⟩:=h.at hr om
  have hr2:=hr.2
  have hn:=GR (m:=seen) (k:=[r]) (v:=true)
  obtain⟨s1,c1,w1⟩:=ih f (seen:=mput seen [r] true) (r:=(at' nodes (r-2)).W) (most:=most) om ⟨xl.1,om⟩ om
  obtain⟨s2,c2,w2⟩:=ih f (seen:=s1) (r:=(at' nodes (r-2)).X) (most:=most) om ⟨xh.1,om⟩ om
  refine⟨s2,om,λQ hQ=>?_⟩
  rw[aT]
  exact condT (λhc=>absurd hc h2) (λ_=>bg (λhc=>absurd hc h3) (λ_=>condT (λhc=>absurd hc h4) (λ_=>⟨zRg,⟨om,om⟩,s1,w1 _ rfl,zRg,⟨om,om⟩,s2,w2 _ rfl,hQ⟩)))
theorem AJ (h:TS o place nodes unique memo) (hb:nodes.length<=1099511627776) {root:Int} {oo:List Int}:∀(k fu:Nat) {refs:GMap Int} {M:List GDNode} {r:Int},k<fu->Vd nodes r->o.length<=k+lvO o nodes r->EX o.length (dw o) nodes refs M->M.length+2^k<=1099511627776->
  ∃(refs':GMap Int) (M':List GDNode) (x:Int),(EX o.length (dw o) nodes refs' M'/\0<=x/\dz (jI o) (dn nodes r) M=(M',x.toNat)/\M'.length+1<=M.length+2^k/\∀q:Int,r<q->cP refs' [q]=cP refs [q])/\
   ∀Q:GMap Int->List GDNode->Int->Prop,Q refs' M' x->bv fu r root refs oo M o place nodes unique memo Q:=by
 intro k
 induction k with
 | zero=>
  intro fu refs M r hfu hr hk hE hB
  obtain⟨f,rfl⟩:∃f,fu=f+1:=⟨fu-1,om⟩
  have h0:=hr.1
  have h2:r<2:=by
   by_cases h2:r<2
   ·exact h2
   ·obtain⟨_,x,_,_,e,_⟩:=h.at hr om
    have:=(h.ord.at_lev (v:=(at' nodes (r-2)).H.toNat) om).1
    omega
  have hm:cP refs [r]=some r:=by
   rcases (show r=0\/r=1 by omega) with rfl | rfl
   ·exact hE.c0
   ·exact hE.c1
  refine⟨refs,M,r,⟨hE,h0,hE.old h.ord.ord h.wt hm,by simp,λ_ _=>rfl⟩,λQ hQ=>?_⟩
  rw[bv,hm]
  exact bg (λ_=>hQ) (λhc=>by cases hc)
 | succ k ih=>
  intro fu refs M r hfu hr hk hE hB
  obtain⟨f,rfl⟩:∃f,fu=f+1:=⟨fu-1,om⟩
  have hpk:0<2^k:=pow_pos om
  rw[pow_succ] at hB ⊢
  cases hm:cP refs [r] with
  | some x=>
   refine⟨refs,M,x,⟨hE,(hE.sound r x hm).2.2.1,hE.old h.ord.ord h.wt hm,om,λ_ _=>rfl⟩,λQ hQ=>?_⟩
   rw[bv,hm]
   exact bg (λ_=>hQ) (λhc=>by cases hc)
  | none=>
   have h0:=hr.1
   have h2:2<=r:=by
    by_cases h2:r<2
    ·rcases (show r=0\/r=1 by omega) with rfl | rfl
     ·rw[hE.c0] at hm;cases hm
     ·rw[hE.c1] at hm;cases hm
    ·omega
   obtain⟨hx,_,xl,xh,_,xlo,xhi⟩:=h.at hr h2
   have hr2:=hr.2
   obtain⟨r1,M1,y1,⟨E1,z1,e1,c1,k1⟩,w1⟩:=ih f (refs:=refs) (M:=M) (r:=(at' nodes (r-2)).W) om ⟨xl.1,om⟩ om hE om
   obtain⟨r2,M2,y2,⟨E2,z2,e2,c2,k2⟩,w2⟩:=ih f (refs:=r1) (M:=M1) (r:=(at' nodes (r-2)).X) om ⟨xh.1,om⟩ om E1 om
   have hno:cP r2 [r]=none:=by rw[k2 r om,k1 r om];exact hm
   have er:r=((2+(r-2).toNat:Nat):Int):=om
   have hN:=EX.node h.ord.ord h.wt hE.wt E2 hx z1 z2 e1 e2 (by rw[<-er];exact hno)
   rw[<-er] at hN
   obtain⟨ha,hE3⟩:=hN
   have hlen:(M2++[(⟨(at' nodes (r-2)).H,y1,y2⟩:GDNode)]).length=M2.length+1:=by rw[length_append];rfl
   refine⟨_,_,((2+M2.length:Nat):Int),⟨hE3,om,?_,by rw[hlen];omega,λq hq=>?_⟩,λQ hQ=>?_⟩
   ·rw[show dn nodes r=λσ=>den nodes σ (2+(r-2).toNat) from ?_,ha,toNat_natCast]
    funext σ
    unfold dn
    congr 1
    omega
   ·rw[eW,if_neg om,k2 q om,k1 q om]
   ·rw[bv,hm]
    refine bg (λhc=>by cases hc) (λ_=>⟨zRg,⟨om,om⟩,w1 _ (w2 _ ⟨by rw[hlen];omega,by rw[hlen];unfold rng;omega,?_⟩)⟩)
    rw[hlen,eW,if_pos rfl,show(1+((M2.length+1:Nat):Int))=((2+M2.length:Nat):Int) by omega]
    exact hQ
theorem Ev (h:TS o place nodes unique memo) (hb:nodes.length<=1099511627776) {r:Int} (hr:Vd nodes r) {Q:GDiagram->Prop} (hQ:Q (vT o (dn nodes r))):db r o place nodes unique memo Q:=by
 have hn:=h.ord.le
 have hp:=qy hn
 obtain⟨refs,M,x,⟨_,z,e,_,_⟩,w⟩:=AJ h hb (root:=0) (oo:=o) o.length (o.length+1) (refs:=mput (mput (jb:GMap Int) [0] 0) [1] 1) (M:=[]) (r:=r) om hr om EX.start (by simp;omega)
 refine⟨om,o.length+1,w _ ?_⟩
 have:(⟨o,M,x⟩:GDiagram)=vT o (dn nodes r):=by
  unfold vT
  rw[e]
  simp only[GDiagram.mk.injEq,true_and]
  omega
 rw[this]
 exact hQ
end
theorem pu {α:Type} {n:Int} {x:α} (h:0<=n):((bS n x).length:Int)=n:=by simp[bS];omega
theorem Df {α:Type} [Inhabited α] {n:Int} {x:α} {i:Nat} (h:(i:Int)<n):at' (bS n x) (i:Int)=x:=by
 simp[at',bS,List.getD_eq_getElem?_getD,show i<n.toNat by omega]
instance:DecidableEq GDiagram:=λa b=>decidable_of_iff (a.Order=b.Order/\a.V=b.V/\a.Z=b.Z) (by cases a;cases b;simp)
theorem Ih {o:List Int} {Q:List Int->List Int->GMap Int->GMap Int->Prop} (h:Or14 o) (hQ:∀place,TS o place [] jb jb->Q o place jb jb):jE o Q:=by
 have hle:=h.le
 refine⟨om,⟨om,om,om,om⟩,?_⟩
 refine ey (n:=o.length) (λi y=>y.1=(i:Int)/\y.2.length=o.length/\∀v:Nat,v<o.length->dw o v<i->at' y.2 (v:Int)=(dw o v:Int)) (λy=>y.1) 0 (λi y hy=>by rw[hy.1];omega) ⟨rfl,by simp[bS],λv hv hl=>absurd hl om⟩ ?_ ?_
 ·rintro i ⟨x,out⟩ next hi ⟨hx,hl,hI⟩ hn
  dsimp only at hx hl hI
  subst hx
  have hr:=h.rg i hi
  obtain⟨v,hv⟩:∃v:Nat,at' o (i:Int)=v:=⟨(at' o (i:Int)).toNat,om⟩
  have hlv:=h.lev_at hi
  rw[hv,toNat_natCast] at hlv
  refine condT (λ_=>⟨⟨om,om⟩,om,zRg,hn _ ⟨by dsimp only;omega,by dsimp only;rw[eu];exact hl,λu hu hul=>?_⟩⟩) (λhc=>absurd (show(i:Int)<o.length by omega) hc)
  dsimp only
  rw[hv,jY om]
  split
  ·rename_i he;subst he;rw[hlv]
  ·rename_i he
   refine hI u hu ?_
   rcases lt_or_ge (dw o u) i with h5 | h5
   ·exact h5
   ·have h6:=(h.at_lev hu).2
    rw[show dw o u=i by omega,hv] at h6
    omega
 ·rintro⟨x,out⟩ next ⟨hx,hl,hI⟩
  dsimp only at hx hl hI
  subst hx
  exact condT (λhc=>absurd hc om) (λ_=>hQ out ⟨h,hl,λv hv=>hI v hv (h.at_lev hv).1,TB.nil⟩)
def dF (d:GDiagram):Asg->Bool:=dn d.V d.Z
structure Opn (l:List GDiagram) (place:List Int) (nodes:List GDNode) (unique memo:GMap Int) (refs:List Int):Prop where
 ts:TS (at' l 0).Order place nodes unique memo
 len:refs.length=l.length
 le:nodes.length<=4096*l.length
 ref:∀i:Nat,i<l.length->Vd nodes (at' refs (i:Int))/\dn nodes (at' refs (i:Int))=dF (at' l (i:Int))
def noD:GDiagram:=⟨[],[],0⟩
section
variable {o place:List Int} {nodes:List GDNode} {unique memo:GMap Int}
end
theorem After.mono {o place:List Int} {nodes nodes':List GDNode} {unique' memo':GMap Int} {r:Int} {f:Asg->Bool} {c c':Nat} (h:After o place nodes nodes' unique' memo' r f c) (hc:c<=c'):After o place nodes nodes' unique' memo' r f c':=⟨h.ts,h.pre,h.vd,h.dn,le_trans h.le (Nat.add_le_add_left hc _)⟩
section
variable {a b:GDiagram} {Q:GDiagram->Option Int->Prop}
end
structure Least (n:Nat) (f:Asg->Bool) (m:Nat):Prop where
 lt:m<2^n
 yes:f (stA m)=true
 no:∀s,s<m->f (stA s)=false
structure Upd (n:Nat) (g f:Asg->Bool) (i:Nat) (t:List Bool):Prop where
 len:t.length=2^n
 at_:∀s:Nat,s<2^n->at' t (s:Int)=if s<i then g (stA s) else f (stA s)
theorem ir {α:Type} {l:List α} {x:α}:(l++[x]).length=l.length+1:=by simp
section
variable {o:List Int} {f:Asg->Bool}
end
theorem jG {α:Type} [Inhabited α] {l:List α} {a:Int} {x:α} {j:Int} (ha:0<=a/\a<l.length) (hj:0<=j):at' (bu l a x) j=if j=a then x else at' l j:=by
 obtain⟨n,rfl⟩:∃n:Nat,a=n:=⟨a.toNat,om⟩
 obtain⟨m,rfl⟩:∃n:Nat,j=n:=⟨j.toNat,om⟩
 rw[jY om]
 by_cases h:m=n
 ·rw[if_pos h,if_pos om]
 ·rw[if_neg h,if_neg om]
def lS (as:List Int) (m:List Bool):List Bool:=as.foldl (λm a=>bu m a true) m
theorem qk:∀(as:List Int) (m:List Bool),(lS as m).length=m.length
 | [],_=>rfl
 | a :: as,m=>by rw[lS,List.foldl_cons];exact(qk as _).trans eu
theorem sd:∀(as:List Int) (m:List Bool) {j:Int},(∀a∈as,0<=a/\a<m.length)->0<=j->(at' (lS as m) j=true↔at' m j=true\/j∈as)
 | [],m,j,_,_=>by simp[lS]
 | a :: as,m,j,h,hj=>by
  have ha:=h a zSm
  have ih:=sd as (bu m a true) (j:=j) (λb hb=>by rw[eu];exact h b (List.mem_cons_of_mem _ hb)) hj
  rw[lS,List.foldl_cons]
  show at' (lS as (bu m a true)) j=true↔_
  rw[ih,jG ha hj,mem_cons]
  by_cases he:j=a
  ·rw[if_pos he];simp[he]
  ·rw[if_neg he];simp[he]
theorem yS {as:List Int} {a:Int} {m:List Bool}:lS (as++[a]) m=bu (lS as m) a true:=by simp[lS]
theorem nL {α:Type} [Inhabited α] {l:List α} {j:Nat} (h:j<l.length):l.take (j+1)=l.take j++[at' l (j:Int)]:=by
 rw[List.take_add_one,List.getElem?_eq_getElem h]
 simp[at',List.getD_eq_getElem?_getD,h]
theorem tl {α:Type} [Inhabited α] {l:List α} {j:Nat} (h:j<l.length):at' l (j:Int)∈l:=by
 simp only[at',toNat_natCast,List.getD_eq_getElem?_getD,List.getElem?_eq_getElem h,Option.getD_some]
 exact List.getElem_mem h
theorem H1 {α:Type} [Inhabited α] {l:List α} {x:α} (h:x∈l):∃j:Nat,j<l.length/\at' l (j:Int)=x:=by
 obtain⟨j,hj,rfl⟩:=List.mem_iff_getElem.1 h
 exact⟨j,hj,by simp[at',List.getD_eq_getElem?_getD,hj]⟩
def yM (f:GFormula) (i:Nat) (m:List Bool):List Bool:=if at' m (f.A+i)=true then lS (at' f.V (i:Int)).M m else m
def i_ (f:GFormula):Nat->List Bool
 | 0=>bu (bS (f.A+(f.V.length:Int)) false) f.F true
 | k+1=>yM f (f.V.length-1-k) (i_ f k)
section
variable {f:GFormula}
theorem lL (g:FG f):∀k,((i_ f k).length:Int)=f.A+f.V.length
 | 0=>by
  have:=g.v0
  rw[i_,eu,pu om]
 | k+1=>by
  rw[i_,yM]
  split
  ·rw[qk];exact lL g k
  ·exact lL g k
theorem sM (g:FG f) {i:Nat} (hi:i<f.V.length):∀a∈(at' f.V (i:Int)).M,0<=a/\a<f.A+i:=λa ha=>by
 obtain⟨j,hj,rfl⟩:=H1 ha
 exact(gX (g.node i hi)).arg j hj
structure Below (f:GFormula) (k:Nat) (m:List Bool):Prop where
 top:at' m f.F=true
 cl:∀i:Nat,f.V.length-k<=i->i<f.V.length->at' m (f.A+i)=true->∀a∈(at' f.V (i:Int)).M,at' m a=true
theorem oW (g:FG f):∀k,k<=f.V.length->Below f k (i_ f k)
 | 0,_=>by
  have:=g.v0;have:=g.top0;have:=g.top
  have hl:((bS (f.A+(f.V.length:Int)) false).length:Int)=f.A+f.V.length:=pu om
  refine⟨?_,λi h1 h2=>om⟩
  rw[i_,jG om om,if_pos rfl]
 | k+1,hk=>by
  have ih:=oW g k om
  have hl:=lL g k
  have v0:=g.v0
  have hi:f.V.length-1-k<f.V.length:=om
  have hin:=sM g hi
  have hin':∀a∈(at' f.V ((f.V.length-1-k:Nat):Int)).M,0<=a/\a<(i_ f k).length:=λa ha=>by have:=hin a ha;omega
  rw[i_,yM]
  split
  ·rename_i hm
   refine⟨(sd _ _ hin' g.top0).2 (.inl ih.top),λi h1 h2 h3 a ha=>?_⟩
   have ha0:=sM g h2 a ha
   rw[sd _ _ hin' om] at h3 ⊢
   by_cases he:i=f.V.length-1-k
   ·subst he;exact .inr ha
   ·rcases h3 with h3 | h3
    ·exact .inl (ih.cl i om h2 h3 a ha)
    ·have:=hin _ h3;omega
  ·rename_i hm
   refine⟨ih.top,λi h1 h2 h3 a ha=>?_⟩
   by_cases he:i=f.V.length-1-k
   ·subst he;exact absurd h3 hm
   ·exact ih.cl i om h2 h3 a ha
theorem BK (g:FG f) {Q:List Bool->Prop} (hQ:Q (i_ f f.V.length)):iS f Q:=by
 have v0:=g.v0;have v24:=g.v24;have n128:=g.n128;have t0:=g.top0;have tt:=g.top
 refine⟨zRg,⟨om,om,om,om⟩,om,zRg,?_⟩
 refine⟨λy=>∃k:Nat,k<=f.V.length/\y=((f.V.length:Int)-1-k,i_ f k),λy=>(y.1+1).toNat,⟨0,om,by simp[i_]⟩,?_⟩
 rintro _ ⟨k,hk,rfl⟩
 refine condT (λhc=>?_) (λhc=>?_)
 ·have ei:(f.V.length:Int)-1-k=((f.V.length-1-k:Nat):Int):=om
  have hi:f.V.length-1-k<f.V.length:=om
  have hl:=lL g k
  have hin:=sM g hi
  rw[ei]
  refine⟨zRg,om,bg (λhm=>⟨om,?_⟩) (λhm=>⟨zRg,⟨k+1,om,?_⟩,by dsimp only;omega⟩)⟩
  ·have ll:=(gX (g.node _ hi)).len
   refine fR (n:=(at' f.V ((f.V.length-1-k:Nat):Int)).M.length) (λj=>((j:Int),lS ((at' f.V ((f.V.length-1-k:Nat):Int)).M.take j) (i_ f k))) (λy=>y.1) 0 (λi=>by dsimp only;omega) rfl (λj next hj hn=>?_) (λnext=>?_)
   ·have ha:=hin _ (tl hj)
    refine condT (λ_=>⟨om,by rw[qk];omega,zRg,?_⟩) (λhc=>absurd (show(j:Int)<_ by omega) hc)
    rw[nL hj,yS] at hn
    exact hn
   ·refine condT (λhc=>absurd hc om) (λ_=>⟨zRg,⟨k+1,om,?_⟩,by dsimp only;omega⟩)
    rw[take_length,i_,yM,if_pos hm]
    refine Prod.ext ?_ rfl
    show _=_
    simp only;omega
  ·rw[i_,yM,if_neg (by rw[hm];simp)]
   refine Prod.ext ?_ rfl
   show _=_
   simp only;omega
 ·obtain rfl:k=f.V.length:=om
  exact hQ
theorem yL {α:Type} [Inhabited α] {l:List α} {a:Int} (h:0<=a/\a<=l.length):((bf l a (l.length:Int)).length:Int)=l.length-a/\∀i:Nat,(i:Int)<l.length-a->at' (bf l a (l.length:Int)) (i:Int)=at' l (a+i):=by
 obtain⟨n,rfl⟩:∃n:Nat,a=n:=⟨a.toNat,om⟩
 refine⟨by simp[bf];omega,λi hi=>?_⟩
 rw[show(n:Int)+(i:Int)=((n+i:Nat):Int) by omega]
 simp only[at',bf,List.getD_eq_getElem?_getD,toNat_natCast]
 rw[List.getElem?_take,if_pos om,List.getElem?_drop]
theorem Hr {Q:Int->Int->Option Int->Prop} (ht:rng f.F) (h1:jJ f≠0->Q 0 0 (some (jJ f))) (h2:FG f->∀r a,0<=r->(r=0->f.F<f.A)->Q r a none):md f Q:=by
 refine fm ht ?_
 by_cases h0:jJ f=0
 ·have g:=kV.1 h0
  have v0:=g.v0;have v24:=g.v24;have n128:=g.n128
  have hl:=lL g f.V.length
  have hb:=oW g f.V.length (le_refl _)
  obtain⟨sl,sa⟩:=yL (l:=i_ f f.V.length) (a:=f.A) om
  rw[h0]
  refine bg (λhc=>by cases hc) (λ_=>⟨_,BK g rfl,⟨om,om,om⟩,?_⟩)
  refine ey (n:=f.V.length) (λi (y:Int×Int×Int)=>(y.2.2=(i:Int)/\0<=y.1/\y.1<=(i:Int)/\0<=y.2.1/\y.2.1<=16*(i:Int))/\(y.1=0->∀k:Nat,k<i->at' (i_ f f.V.length) (f.A+k)=false)) (λy=>y.2.2) 0 (λi y hy=>by rw[hy.1.1];omega) ⟨by dsimp only;omega,λ_ k hk=>absurd hk om⟩ ?_ ?_
  ·rintro i ⟨nn,aa,x⟩ next hi ⟨⟨hx,a1,a2,a3,a4⟩,hz⟩ hn
   dsimp only at hx a1 a2 a3 a4 hz
   subst hx
   have ll:=(gX (g.node _ hi)).len
   dsimp only
   rw[sa i om]
   refine condT (λ_=>⟨om,bg (λhm=>⟨zRg,om,zRg,iK ⟨zRg,hn _ ⟨by dsimp only;omega,λhc=>by dsimp only at hc;omega⟩⟩⟩) (λhm=>⟨zRg,hn _ ⟨by dsimp only;omega,λhc k hk=>?_⟩⟩)⟩) (λhc=>absurd (show(i:Int)<_ by omega) hc)
   by_cases hk2:k<i
   ·exact hz hc k hk2
   ·obtain rfl:k=i:=om
    exact hm
  ·rintro⟨nn,aa,x⟩ next ⟨⟨hx,a1,a2,a3,a4⟩,hz⟩
   dsimp only at hx a1 a2 a3 a4 hz
   subst hx
   refine condT (λhc=>absurd hc om) (λ_=>h2 g nn aa a1 λhr=>?_)
   by_cases hT:f.F<f.A
   ·exact hT
   ·have:=hz hr (f.F-f.A).toNat (by have:=g.top;omega)
    rw[show f.A+((f.F-f.A).toNat:Int)=f.F by omega,hb.top] at this
    cases this
 ·have:isSome (lE (jJ f))=true:=by rw[ee];simp[h0]
  have e:lE (jJ f)=some (jJ f):=vK h0
  rw[e]
  exact bg (λ_=>h1 h0) (λhc=>by cases hc)
theorem qG {f g:GFormula} {s:Nat} (hV:f.A=g.A):∀n,(∀i:Nat,i<n->at' f.V (i:Int)=at' g.V (i:Int))->cO f s n=cO g s n
 | 0,_=>by rw[cO,cO,hV]
 | n+1,h=>by rw[cO,cO,qG hV n (λi hi=>h i om),h n om]
theorem w_ {f g:GFormula} {i:Nat} (hV:f.A=g.A) (h:at' f.V (i:Int)=at' g.V (i:Int)):ju f i=ju g i:=by
 unfold ju;rw[h,hV]
theorem yo {α β:Type} [Inhabited α] [Inhabited β] {l:List α} {g:α->β} {j:Nat} (h:j<l.length):at' (l.map g) (j:Int)=g (at' l (j:Int)):=by
 simp[at',List.getD_eq_getElem?_getD,h]
theorem Hp {Q:GFormula->Option Int->Prop} (g:FG f) (hQ:∀x,FG x->x.A=f.A->(∀s,FV x s=FV f s)->(∀n:Nat,n<x.V.length->∃k:Nat,k<f.V.length/\∀s,at' (cO x s x.V.length) (f.A+n)=at' (cO f s f.V.length) (f.A+k))->Q x none):mc f Q:=by
 have v0:=g.v0;have v24:=g.v24;have n128:=g.n128;have t0:=g.top0;have tt:=g.top
 have hl:=lL g f.V.length
 have hb:=oW g f.V.length (le_refl _)
 obtain⟨sl,sa⟩:=yL (l:=i_ f f.V.length) (a:=f.A) om
 have hrl:((bS (f.A+(f.V.length:Int)) (0:Int)).length:Int)=f.A+f.V.length:=pu om
 refine fm zRg ?_
 rw[kV.2 g]
 refine bg (λhc=>by cases hc) (λ_=>⟨zRg,⟨om,om,om,om⟩,?_⟩)
 refine ey (n:=f.A.toNat) (λi (y:Int×List Int)=>(y.1=(i:Int)/\(y.2.length:Int)=f.A+f.V.length)/\∀v:Nat,v<i->at' y.2 (v:Int)=(v:Int)) (λy=>y.1) 0 (λi y hy=>by rw[hy.1.1];omega) ⟨⟨rfl,hrl⟩,λv hv=>absurd hv om⟩ ?_ ?_
 ·rintro i ⟨x,to⟩ next hi ⟨⟨hx,hl1⟩,hI⟩ hn
  dsimp only at hx hl1 hI
  subst hx
  refine condT (λ_=>⟨om,zRg,hn _ ⟨⟨by dsimp only;omega,by dsimp only;rw[eu];exact hl1⟩,λv hv=>?_⟩⟩) (λhc=>absurd (show(i:Int)<f.A by omega) hc)
  dsimp only
  rw[jY om]
  split
  ·rename_i he;rw[he]
  ·exact hI v om
 rintro⟨x,to0⟩ next ⟨⟨hx,hl1⟩,hI⟩
 dsimp only at hx hl1 hI
 subst hx
 refine condT (λhc=>absurd hc om) (λ_=>⟨_,BK g rfl,⟨om,om,om⟩,?_⟩)
 refine ey (n:=f.V.length) (λi (y:Int×List Int×List GNode)=>(y.1=(i:Int)/\(y.2.1.length:Int)=f.A+f.V.length/\y.2.2.length<=i)/\(∀v:Nat,(v:Int)<f.A->at' y.2.1 (v:Int)=(v:Int))/\(∀n:Nat,n<y.2.2.length->ju ⟨f.A,y.2.2,0⟩ n=0/\∃k:Nat,k<f.V.length/\∀s,at' (cO ⟨f.A,y.2.2,0⟩ s y.2.2.length) (f.A+n)=at' (cO f s f.V.length) (f.A+k))/\
   ∀k:Nat,k<i->at' (i_ f f.V.length) (f.A+k)=true->(0<=at' y.2.1 (f.A+k)/\at' y.2.1 (f.A+k)<f.A+y.2.2.length)/\∀s,at' (cO ⟨f.A,y.2.2,0⟩ s y.2.2.length) (at' y.2.1 (f.A+k))=at' (cO f s f.V.length) (f.A+k)) (λy=>y.1) 0
  (λi y hy=>by rw[hy.1.1];omega) ⟨⟨rfl,hl1,by simp⟩,λv hv=>hI v om,λn hn=>by simp at hn,λk hk=>absurd hk om⟩ ?_ ?_
 ·rintro i ⟨x,to,x2⟩ next2 hi ⟨⟨hx,hl2,hx2⟩,hV,hN,hK⟩ hn
  dsimp only at hx hl2 hx2 hV hN hK
  subst hx
  have ng:=gX (g.node i hi)
  have hin:=sM g hi
  dsimp only
  rw[sa i om]
  refine condT (λ_=>⟨om,bg (λhm=>?_) (λhm=>⟨om,?_⟩)⟩) (λhc=>absurd (show(i:Int)<_ by omega) hc)
  ·have hm':at' (i_ f f.V.length) (f.A+i)=false:=by simpa using hm
   refine⟨zRg,hn _ ⟨⟨by dsimp only;omega,hl2,by dsimp only;omega⟩,hV,hN,λk hk hmk=>?_⟩⟩
   by_cases hk2:k<i
   ·exact hK k hk2 hmk
   ·obtain rfl:k=i:=om
    rw[hm'] at hmk;cases hmk
  ·have hm':at' (i_ f f.V.length) (f.A+i)=true:=by simpa using hm
   have ll:=ng.len
   have hcl:=hb.cl i om hi hm'
   have harg:∀a∈(at' f.V (i:Int)).M,(0<=at' to a/\at' to a<f.A+x2.length)/\∀s,at' (cO ⟨f.A,x2,0⟩ s x2.length) (at' to a)=at' (cO f s i) a:=λa ha=>by
    have h3:=hin a ha
    by_cases hv:a<f.A
    ·obtain⟨v,rfl⟩:∃v:Nat,a=v:=⟨a.toNat,om⟩
     rw[hV v hv]
     refine⟨om,λs=>?_⟩
     rw[jf (f:=⟨f.A,x2,0⟩) om hv,jf om hv]
    ·obtain⟨k,rfl⟩:∃k:Nat,a=f.A+k:=⟨(a-f.A).toNat,om⟩
     obtain⟨q1,q2⟩:=hK k om (hcl _ ha)
     refine⟨q1,λs=>?_⟩
     rw[q2,ke (m:=i) om om f.V.length om]
   refine fR (n:=(at' f.V (i:Int)).M.length) (λj=>((j:Int),((at' f.V (i:Int)).M.take j).map λa=>at' to a)) (λy=>y.1) 0 (λj=>by dsimp only;omega) rfl (λj next3 hj hn3=>?_) (λnext3=>?_)
   ·have h3:=hin _ (tl hj)
    dsimp only
    refine condT (λ_=>⟨om,om,by rw[ir,length_map,length_take];omega,zRg,?_⟩) (λhc=>absurd (show(j:Int)<_ by omega) hc)
    rw[nL hj,map_append] at hn3
    exact hn3
   ·refine condT (λhc=>absurd hc om) (λ_=>?_)
    dsimp only
    rw[take_length]
    generalize hxn:(⟨(at' f.V (i:Int)).D,(at' f.V (i:Int)).K,(at' f.V (i:Int)).M.map λa=>at' to a⟩:GNode)=xn
    have hlast:at' (x2++[xn]) (x2.length:Int)=xn:=iY
    have hold:∀n:Nat,n<x2.length->at' (x2++[xn]) (n:Int)=at' x2 (n:Int):=λn hn=>eV om om
    have hvo:∀s n,n<=x2.length->cO ⟨f.A,x2++[xn],0⟩ s n=cO ⟨f.A,x2,0⟩ s n:=λs n hn=>qG (f:=⟨f.A,x2++[xn],0⟩) (g:=⟨f.A,x2,0⟩) rfl n λk hk=>hold k om
    have hval:∀s,at' (cO ⟨f.A,x2++[xn],0⟩ s (x2.length+1)) (f.A+x2.length)=at' (cO f s f.V.length) (f.A+i):=λs=>by
     have e:=pm (f:=⟨f.A,x2++[xn],0⟩) (s:=s) (i:=x2.length) v0 zSm
     rw[show(⟨f.A,x2++[xn],0⟩:GFormula).V.length=x2.length+1 from ir] at e
     rw[e,pm v0 hi]
     show iw (at' (x2++[xn]) (x2.length:Int)) _=_
     rw[hlast,hvo s _ (le_refl _),<-hxn]
     unfold iw
     have ec:cnt ⟨(at' f.V (i:Int)).D,(at' f.V (i:Int)).K,(at' f.V (i:Int)).M.map λa=>at' to a⟩ (cO ⟨f.A,x2,0⟩ s x2.length) (at' f.V (i:Int)).M.length=cnt (at' f.V (i:Int)) (cO f s i) (at' f.V (i:Int)).M.length:=by
      have:∀j,j<=(at' f.V (i:Int)).M.length->cnt ⟨(at' f.V (i:Int)).D,(at' f.V (i:Int)).K,(at' f.V (i:Int)).M.map λa=>at' to a⟩ (cO ⟨f.A,x2,0⟩ s x2.length) j=cnt (at' f.V (i:Int)) (cO f s i) j:=λj=>by
       induction j with
       | zero=>intro _;rfl
       | succ j ih=>
        intro hj
        rw[cnt,cnt,ih om]
        simp only
        rw[yo om,(harg _ (tl om)).2 s]
      exact this _ (le_refl _)
     simp only[length_map]
     rw[ec]
     unfold oh
     simp only[length_map]
    refine⟨zRg,zRg,om,by rw[ir];omega,zRg,hn _ ⟨⟨by dsimp only;omega,by dsimp only;rw[eu];exact hl2,by dsimp only;rw[ir];omega⟩,λv hv=>?_,λn hn2=>?_,λk hk hmk=>?_⟩⟩
    ·dsimp only
     rw[jG om om,if_neg om]
     exact hV v hv
    ·dsimp only at hn2 ⊢
     rw[ir] at hn2
     by_cases hlt:n<x2.length
     ·rw[w_ (f:=⟨f.A,x2++[xn],0⟩) (g:=⟨f.A,x2,0⟩) rfl (hold n hlt),ir]
      obtain⟨q1,k,q2,q3⟩:=hN n hlt
      refine⟨q1,k,q2,λs=>?_⟩
      rw[ke (m:=x2.length) om (by show _<(f.A.toNat:Int)+_;omega) (x2.length+1) om,hvo s _ (le_refl _)]
      exact q3 s
     ·obtain rfl:n=x2.length:=om
      refine⟨?_,i,hi,λs=>by rw[ir];exact hval s⟩
      have h0:=g.node i hi
      unfold ju at h0 ⊢
      simp only[hlast]
      rw[<-hxn]
      simp only[length_map]
      split at h0
      ·cases h0
      rename_i c1
      split at h0
      ·cases h0
      rename_i c2
      split at h0
      ·cases h0
      rw[if_neg c1,if_neg c2,if_neg]
      ·exact h0
      ·rintro⟨j,hj,hc⟩
       rw[yo hj] at hc
       have:=(harg _ (tl hj)).1
       omega
    ·dsimp only
     rw[jG om om,ir]
     by_cases hki:k=i
     ·subst hki
      rw[if_pos rfl]
      exact⟨om,hval⟩
     ·rw[if_neg om]
      obtain⟨q1,q2⟩:=hK k om hmk
      refine⟨om,λs=>?_⟩
      rw[ke (m:=x2.length) q1.1 (by show _<(f.A.toNat:Int)+_;omega) (x2.length+1) om,hvo s _ (le_refl _)]
      exact q2 s
 ·rintro⟨x,to,x2⟩ next2 ⟨⟨hx,hl2,hx2⟩,hV,hN,hK⟩
  dsimp only at hx hl2 hx2 hV hN hK
  subst hx
  have hT:(0<=at' to f.F/\at' to f.F<f.A+x2.length)/\∀s,at' (cO ⟨f.A,x2,0⟩ s x2.length) (at' to f.F)=at' (cO f s f.V.length) f.F:=by
   by_cases hv:f.F<f.A
   ·obtain⟨v,hv'⟩:∃v:Nat,f.F=v:=⟨f.F.toNat,om⟩
    rw[hv'] at hv ⊢
    rw[hV v hv]
    refine⟨om,λs=>?_⟩
    rw[jf (f:=⟨f.A,x2,0⟩) om hv,jf om hv]
   ·obtain⟨k,hk⟩:∃k:Nat,f.F=f.A+k:=⟨(f.F-f.A).toNat,om⟩
    have hbt:=hb.top
    rw[hk] at hbt ⊢
    exact hK k om hbt
  refine condT (λhc=>absurd hc om) (λ_=>⟨om,hQ _ ⟨v0,v24,by show x2.length<=128;omega,λn hn=>?_,hT.1.1,hT.1.2⟩ rfl (λs=>?_) λn hn=>?_⟩)
  ·rw[w_ (f:=⟨f.A,x2,at' to f.F⟩) (g:=⟨f.A,x2,0⟩) rfl rfl]
   exact(hN n hn).1
  ·show at' (cO ⟨f.A,x2,at' to f.F⟩ s x2.length) (at' to f.F)=_
   rw[qG (f:=⟨f.A,x2,at' to f.F⟩) (g:=⟨f.A,x2,0⟩) rfl _ (λ_ _=>rfl),hT.2 s]
   rfl
  ·obtain⟨_,k,q2,q3⟩:=hN n hn
   refine⟨k,q2,λs=>?_⟩
   show at' (cO ⟨f.A,x2,at' to f.F⟩ s x2.length) _=_
   rw[qG (f:=⟨f.A,x2,at' to f.F⟩) (g:=⟨f.A,x2,0⟩) rfl _ (λ_ _=>rfl)]
   exact q3 s
end
theorem Fa {σ:Type} {n:Nat} (st:Nat->σ) (ix:σ->Int) (c:Int) (hix:∀i,i<=n->ix (st i)=i+c) {x0:σ} {body:σ->(σ->Prop)->Prop} (h0:x0=st 0)
  (hs:∀i (next:σ->Prop),i<n->next (st (i+1))->body (st i) next) (he:∀(next:σ->Prop),body (st n) next):bo x0 body:=by
 refine⟨λy=>∃i,i<=n/\y=st i,λy=>n-(ix y-c).toNat,⟨0,Nat.zero_le _,h0⟩,?_⟩
 rintro _ ⟨i,hi,rfl⟩
 rcases lt_or_ge i n with h | h
 ·refine hs i _ h ⟨⟨i+1,h,rfl⟩,?_⟩
  have h1:=hix i hi
  have h2:=hix (i+1) h
  dsimp only
  rw[h1,h2]
  omega
 ·obtain rfl:i=n:=om
  exact he _
theorem Ay {σ τ:Type} {n:Nat} (Inv:Nat->σ->Prop) (ix:σ->Int) (c:Int) (hix:∀i y,Inv i y->ix y=i+c) {x0:σ} {B:τ->σ->(σ->Prop)->Prop} (h0:Inv 0 x0)
  (hs:∀i x,i<n->Inv i x->∃y,Inv (i+1) y/\∀(Q:τ) (next:σ->Prop),next y->B Q x next):∃y,Inv n y/\∀Q:τ,(∀next,B Q y next)->bo x0 (B Q):=by
 have key:∀k,k<=n->∃st:Nat->σ,st 0=x0/\(∀i,i<=k->Inv i (st i))/\∀i,i<k->∀(Q:τ) (next:σ->Prop),next (st (i+1))->B Q (st i) next:=λk=>by
  induction k with
  | zero=>exact λ_=>⟨λ_=>x0,rfl,λi hi=>(by obtain rfl:i=0:=om;exact h0),λi hi=>absurd hi om⟩
  | succ k ih=>
   intro hk
   obtain⟨st,a,b,d⟩:=ih om
   obtain⟨y,hy,w⟩:=hs k (st k) om (b k (le_refl _))
   refine⟨λi=>if i<=k then st i else y,by simp[a],λi hi=>?_,λi hi Q next hn=>?_⟩
   ·by_cases h1:i<=k
    ·simp only[h1,if_true];exact b i h1
    ·obtain rfl:i=k+1:=om
     simp only[h1,if_false];exact hy
   ·by_cases h1:i=k
    ·subst h1
     simp only[le_refl,if_true]
     simp only[show ¬i+1<=i by omega,if_false] at hn
     exact w Q next hn
    ·simp only[show i<=k by omega,if_true]
     simp only[show i+1<=k by omega,if_true] at hn
     exact d i om Q next hn
 obtain⟨st,a,b,d⟩:=key n (le_refl _)
 exact⟨st n,b n (le_refl _),λQ he=>Fa st ix c (λi hi=>hix i _ (b i hi)) a.symm (λi next hi hn=>d i hi Q next hn) he⟩
def FE (M:Int->Int->List Int->List Int->List GDNode->GMap Int->GMap Int->(List GDNode->GMap Int->GMap Int->Int->Prop)->Prop) (g:Bool->Bool->Bool):Prop:=
 ∀ {o place:List Int} {nodes:List GDNode} {unique memo:GMap Int},TS o place nodes unique memo->o.length<=24->nodes.length<=1099478073344->∀ {a b:Int},Vd nodes a->Vd nodes b->
  ∃nodes' unique' memo' r,After o place nodes nodes' unique' memo' r (λσ=>g (dn nodes a σ) (dn nodes b σ)) 33554432/\
   ∀Q:List GDNode->GMap Int->GMap Int->Int->Prop,Q nodes' unique' memo' r->M a b o place nodes unique memo Q
theorem EV:FE d4 (λx y=>x && y):=by
 intro o place nodes unique memo h hn hb a b ha hb'
 have h1:=qy hn
 obtain⟨n1,u1,m1,r,ha,w⟩:=Ii h om ha hb'
 exact⟨n1,u1,m1,r,ha.mono om,w⟩
theorem GG:FE eC (λx y=>x || y):=by
 intro o place nodes unique memo h hn hb a b ha hb'
 have h1:=qy hn
 obtain⟨n1,u1,m1,r,ha,w⟩:=IC h om ha hb'
 exact⟨n1,u1,m1,r,ha.mono om,w⟩
theorem EU:FE dX (λx y=>x != y):=by
 intro o place nodes unique memo h hn hb a b ha hb'
 have h1:=qy hn
 obtain⟨n1,u1,m1,r,ha,w⟩:=Ig h om ha hb'
 exact⟨n1,u1,m1,r,ha.mono om,w⟩
def HZ (M:Int->Int->List Int->List Int->List GDNode->GMap Int->GMap Int->(List GDNode->GMap Int->GMap Int->Int->Prop)->Prop) (refs:List Int) (first:Int) (order:List Int) (place:List Int) (nodes:List GDNode) (unique:GMap Int) (memo:GMap Int) (Q:List GDNode->GMap Int->GMap Int->Int->Prop):Prop:=
 bo (σ:=Int×Int×(List GDNode)×(GMap Int)×(GMap Int)) (first,0,nodes,unique,memo) λ⟨first1,x,x1,x2,x3⟩ next1=>
  aq (decide (x<(refs.length:Int)))
   (((0:Int)<=x/\x<(refs.length:Int))/\
   M first1 (at' refs x) order place x1 x2 x3 λu u1 u2 first2=>
   rng (x+1)/\
   next1 (first2,(x+1),u,u1,u2))
   (Q x1 x2 x3 first1)
def rA (g:Bool->Bool->Bool) (c:Bool) (b:Nat->Bool):Nat->Bool
 | 0=>c
 | i+1=>g (rA g c b i) (b i)
section
variable {o place:List Int} {nodes:List GDNode} {unique memo:GMap Int}
theorem Ap {M:Int->Int->List Int->List Int->List GDNode->GMap Int->GMap Int->(List GDNode->GMap Int->GMap Int->Int->Prop)->Prop} {g:Bool->Bool->Bool} (hM:FE M g) (h:TS o place nodes unique memo) (hn:o.length<=24) {refs:List Int} {first:Int} {c:Bool} (hl:refs.length<=16)
  (hb:nodes.length<=549755813888) (hf:Vd nodes first) (hc:dn nodes first=λ_=>c) (hr:∀j:Nat,j<refs.length->Vd nodes (at' refs (j:Int))) :
  ∃nodes' unique' memo' r,After o place nodes nodes' unique' memo' r (λσ=>rA g c (λj=>dn nodes (at' refs (j:Int)) σ) refs.length) 4294967296/\
   ∀Q:List GDNode->GMap Int->GMap Int->Int->Prop,Q nodes' unique' memo' r->HZ M refs first o place nodes unique memo Q:=by
 obtain⟨⟨r,x,n1,u1,m1⟩,⟨⟨hx,hT⟩,hP,hV,hD,hL⟩,w⟩:=Ay (τ:=List GDNode->GMap Int->GMap Int->Int->Prop) (n:=refs.length) (x0:=(first,0,nodes,unique,memo))
  (λi (y:Int×Int×(List GDNode)×(GMap Int)×(GMap Int))=>(y.2.1=(i:Int)/\TS o place y.2.2.1 y.2.2.2.1 y.2.2.2.2)/\Pre nodes y.2.2.1/\Vd y.2.2.1 y.1/\dn y.2.2.1 y.1=(λσ=>rA g c (λj=>dn nodes (at' refs (j:Int)) σ) i)/\y.2.2.1.length<=nodes.length+33554432*i)
  (λy=>y.2.1) 0 (λi y hy=>by rw[hy.1.1];omega)
  (B:=λQ=>λ⟨first1,x,x1,x2,x3⟩ next1=>
  aq (decide (x<(refs.length:Int)))
   (((0:Int)<=x/\x<(refs.length:Int))/\
   M first1 (at' refs x) o place x1 x2 x3 λu u1 u2 first2=>
   rng (x+1)/\
   next1 (first2,(x+1),u,u1,u2))
   (Q x1 x2 x3 first1))
  ⟨⟨rfl,h⟩,Pre.refl _,hf,hc,by dsimp only;omega⟩ (by
   rintro i ⟨r,x,n1,u1,m1⟩ hi ⟨⟨hx,hT⟩,hP,hV,hD,hL⟩
   dsimp only at hx hT hP hV hD hL
   subst hx
   have hri:=hr i hi
   have hi16:i<16:=Nat.lt_of_lt_of_le hi hl
   have hL2:n1.length<=550292684800:=le_trans hL om
   obtain⟨n2,u2,m2,r2,a2,w2⟩:=hM hT hn (le_trans hL2 (by decide)) hV (hri.pre hP)
   have l2:=a2.le
   refine⟨(r2,(i:Int)+1,n2,u2,m2),⟨⟨by dsimp only;omega,a2.ts⟩,hP.trans a2.pre,a2.vd,?_,le_trans l2 om⟩,λQ next hn=>condT (λ_=>⟨om,w2 _ ⟨zRg,hn⟩⟩) (λhc=>absurd (show(i:Int)<refs.length by omega) hc)⟩
   dsimp only
   rw[a2.dn,hD,gi hri hP]
   rfl)
 dsimp only at hx hT hP hV hD hL
 subst hx
 exact⟨n1,u1,m1,r,⟨hT,hP,hV,hD,le_trans hL om⟩,λQ hQ=>w Q λnext=>condT (λhc=>absurd hc om) (λ_=>hQ)⟩
def kD (b:Nat->Bool):Nat->Nat
 | 0=>0
 | i+1=>kD b i+(if b i=true then 1 else 0)
theorem BI {b:Nat->Bool}:∀i,kD b i<=i
 | 0=>le_refl _
 | i+1=>by have:=BI (b:=b) i;rw[kD];split<;>omega
theorem zG {b:Nat->Bool}:∀i,rA (λx y=>x && y) true b i=decide (kD b i=i)
 | 0=>rfl
 | i+1=>by
  have:=BI (b:=b) i
  rw[rA,zG i,kD]
  cases hb:b i
  ·rw[Bool.and_false,if_neg zSm];exact(decide_eq_false om).symm
  ·rw[Bool.and_true,if_pos rfl];exact decide_eq_decide.2 om
theorem Bw {b:Nat->Bool}:∀i,rA (λx y=>x || y) false b i=decide (0<kD b i)
 | 0=>rfl
 | i+1=>by
  rw[rA,Bw i,kD]
  cases hb:b i
  ·rw[Bool.or_false,if_neg zSm];rfl
  ·rw[Bool.or_true,if_pos rfl];exact(decide_eq_true om).symm
theorem zF {b:Nat->Bool}:∀i,rA (λx y=>x != y) false b i=decide (kD b i % 2=1)
 | 0=>rfl
 | i+1=>by
  rw[rA,zF i,kD]
  cases hb:b i
  ·rw[if_neg zSm,add_zero];simp
  ·rw[if_pos rfl]
   rcases Nat.mod_two_eq_zero_or_one (kD b i) with h1 | h1
   ·rw[decide_eq_false om,decide_eq_true om];rfl
   ·rw[decide_eq_true h1,decide_eq_false om];rfl
end
section
variable {N:List GDNode}
structure CubeOk (n:Nat) (c:GCube):Prop where
 yes:0<=c.U/\c.U.toNat<2^n
 no:0<=c.No/\c.No.toNat<2^n
 dis:c.U.toNat &&& c.No.toNat=0
end
section
variable {o:List Int} {f:Asg->Bool}
end
theorem zN {x:GNode} {v:List Bool}:∀j,cnt x v j=kD (λk=>at' v (at' x.M (k:Int))) j
 | 0=>rfl
 | j+1=>by rw[cnt,kD,zN j]
theorem vQ {b c:Nat->Bool}:∀j,(∀k,k<j->b k=c k)->kD b j=kD c j
 | 0,_=>rfl
 | j+1,h=>by rw[kD,kD,vQ j (λk hk=>h k om),h j om]
section
variable {o place:List Int} {nodes:List GDNode} {unique memo:GMap Int}
structure Need (nodes:List GDNode) (need:List Int) (k:Nat) (lo:Nat) (a b:Asg->Nat):Prop where
 len:need.length=k+1
 vd:∀m:Nat,m<=k->Vd nodes (at' need (m:Int))
 dn:∀m:Nat,m<=k->dn nodes (at' need (m:Int))=λσ=>decide (m<=(if m<=lo then a σ else b σ))
theorem Cg {nodes':List GDNode} {need:List Int} {k lo:Nat} {a b:Asg->Nat} {c:Asg->Bool} {r:Int} (h:Need nodes need k (lo+1) a b) (hlo:lo+1<=k) (hp:Pre nodes nodes') (hv:Vd nodes' r)
  (hab:∀σ,b σ=a σ+(if c σ=true then 1 else 0)) (hd:dn nodes' r=λσ=>bif c σ then dn nodes (at' need (lo:Int)) σ else dn nodes (at' need ((lo+1:Nat):Int)) σ):Need nodes' (bu need ((lo+1:Nat):Int) r) k lo a b:=by
 have hl:=h.len
 refine⟨by rw[eu];exact hl,λm hm=>?_,λm hm=>?_⟩
 ·rw[jY om]
  split
  ·exact hv
  ·exact(h.vd m hm).pre hp
 ·rw[jY om]
  by_cases he:m=lo+1
  ·subst he
   rw[if_pos rfl,hd,h.dn lo om,h.dn (lo+1) hm]
   funext σ
   dsimp only
   rw[if_pos (by omega:lo<=lo+1),if_pos (le_refl (lo+1)),if_neg (by omega:¬lo+1<=lo),hab]
   cases c σ
   ·simp
   ·simp
  ·rw[if_neg he,gi (h.vd m hm) hp,h.dn m hm]
   funext σ
   by_cases h1:m<=lo
   ·rw[if_pos om,if_pos h1]
   ·rw[if_neg om,if_neg h1]
theorem Gh (h:TS o place nodes unique memo) (hn:o.length<=24) {refs:List Int} {k:Nat} (hk:k<=16) (hl:refs.length<=16) (hb:nodes.length<=549755813888)
  (hr:∀j:Nat,j<refs.length->Vd nodes (at' refs (j:Int))) :
  ∃nodes' unique' memo' r,After o place nodes nodes' unique' memo' r (λσ=>decide (k<=kD (λj=>dn nodes (at' refs (j:Int)) σ) refs.length)) 4294967296/\
   ∀Q:List GDNode->GMap Int->GMap Int->Int->Prop,Q nodes' unique' memo' r->jB refs (k:Int) o place nodes unique memo Q:=by
 have w12:=qy hn
 have hrl:((bS ((k:Int)+1) (0:Int)).length:Int)=k+1:=pu om
 have start:Need nodes (bu (bS ((k:Int)+1) 0) 0 1) k k (λσ=>kD (λj=>dn nodes (at' refs (j:Int)) σ) 0) (λσ=>kD (λj=>dn nodes (at' refs (j:Int)) σ) 0):=by
  have e:∀m:Nat,m<=k->at' (bu (bS ((k:Int)+1) (0:Int)) 0 1) (m:Int)=if m=0 then 1 else 0:=λm hm=>by
   have:=jY (l:=bS ((k:Int)+1) (0:Int)) (i:=0) (x:=1) (j:=m) om
   rw[show((0:Nat):Int)=0 from rfl] at this
   rw[this]
   by_cases h0:m=0
   ·rw[if_pos h0,if_pos h0]
   ·rw[if_neg h0,if_neg h0,Df om]
  refine⟨by rw[eu];omega,λm hm=>?_,λm hm=>?_⟩
  ·rw[e m hm];split
   ·exact vd1
   ·exact vd0
  ·rw[e m hm]
   by_cases h0:m=0
   ·subst h0;rw[if_pos rfl,dn1];rfl
   ·rw[if_neg h0,dn0];funext σ;simp[kD,h0]
 obtain⟨⟨x,need,n1,u1,m1⟩,⟨⟨hx,hT⟩,hP,hN,hL⟩,w⟩:=Ay (τ:=List GDNode->GMap Int->GMap Int->Int->Prop) (n:=refs.length) (x0:=((0:Int),bu (bS ((k:Int)+1) 0) 0 1,nodes,unique,memo))
  (λi (y:Int×List Int×(List GDNode)×(GMap Int)×(GMap Int))=>(y.1=(i:Int)/\TS o place y.2.2.1 y.2.2.2.1 y.2.2.2.2)/\Pre nodes y.2.2.1/\Need y.2.2.1 y.2.1 k k (λσ=>kD (λj=>dn nodes (at' refs (j:Int)) σ) i) (λσ=>kD (λj=>dn nodes (at' refs (j:Int)) σ) i)/\y.2.2.1.length<=nodes.length+268435456*i)
  (λy=>y.1) 0 (λi y hy=>by rw[hy.1.1];omega)
  (B:=λQ=>λ⟨x,need,x1,x2,x3⟩ next1=>
  aq (decide (x<(refs.length:Int)))
   (((0:Int)<=x/\x<(refs.length:Int))/\
   bo (σ:=Int×(List Int)×(List GDNode)×(GMap Int)×(GMap Int)) ((k:Int),need,x1,x2,x3) λ⟨j,need1,x4,x5,x6⟩ next2=>
    aq (decide (0<j))
     (rng (j-1)/\
     ((0:Int)<=(j-1)/\(j-1)<(need1.length:Int))/\
     ((0:Int)<=j/\j<(need1.length:Int))/\
     ∃u u1 u2 r,(∃fu,aH fu (at' refs x) (at' need1 (j-1)) (at' need1 j) o place x4 x5 x6 λy1 y2 y3 y4=>y1=u/\y2=u1/\y3=u2/\y4=r)/\
     ((0:Int)<=j/\j<(need1.length:Int))/\
     rng (j-1)/\
     next2 ((j-1),(bu need1 j r),u,u1,u2))
     (rng (x+1)/\
     next1 ((x+1),need1,x4,x5,x6)))
   (((0:Int)<=(k:Int)/\(k:Int)<(need.length:Int))/\
   Q x1 x2 x3 (at' need (k:Int))))
  ⟨⟨rfl,h⟩,Pre.refl _,start,by dsimp only;omega⟩ (by
   rintro i ⟨x,need,n1,u1,m1⟩ hi ⟨⟨hx,hT⟩,hP,hN,hL⟩
   dsimp only at hx hT hP hN hL
   subst hx
   have hri:=hr i hi
   have hi16:i<16:=Nat.lt_of_lt_of_le hi hl
   have hL2:n1.length<=554050781184:=le_trans hL om
   obtain⟨⟨j,need2,n2,u2,m2⟩,⟨⟨hj,hT2⟩,hP2,hN2,hL3⟩,w2⟩:=Ay (τ:=Int×(List Int)×(List GDNode)×(GMap Int)×(GMap Int)->Prop) (n:=k) (x0:=((k:Int),need,n1,u1,m1))
    (λa (y:Int×List Int×(List GDNode)×(GMap Int)×(GMap Int))=>(y.1=(k:Int)-a/\TS o place y.2.2.1 y.2.2.2.1 y.2.2.2.2)/\Pre n1 y.2.2.1/\Need y.2.2.1 y.2.1 k (k-a) (λσ=>kD (λj=>dn nodes (at' refs (j:Int)) σ) i) (λσ=>kD (λj=>dn nodes (at' refs (j:Int)) σ) (i+1))/\y.2.2.1.length<=n1.length+16777216*a)
    (λy=>-y.1) (-(k:Int)) (λa y hy=>by rw[hy.1.1];omega)
    (B:=λN2=>λ⟨j,need1,x4,x5,x6⟩ next2=>
    aq (decide (0<j))
     (rng (j-1)/\
     ((0:Int)<=(j-1)/\(j-1)<(need1.length:Int))/\
     ((0:Int)<=j/\j<(need1.length:Int))/\
     ∃u u1 u2 r,(∃fu,aH fu (at' refs (i:Int)) (at' need1 (j-1)) (at' need1 j) o place x4 x5 x6 λy1 y2 y3 y4=>y1=u/\y2=u1/\y3=u2/\y4=r)/\
     ((0:Int)<=j/\j<(need1.length:Int))/\
     rng (j-1)/\
     next2 ((j-1),(bu need1 j r),u,u1,u2))
     (rng ((i:Int)+1)/\
     N2 (((i:Int)+1),need1,x4,x5,x6)))
    ⟨⟨by simp,hT⟩,Pre.refl _,⟨hN.len,hN.vd,λm hm=>by
     have:=hN.dn m hm
     rw[this];funext σ
     rw[if_pos hm,if_pos om]⟩,by dsimp only;omega⟩ (by
     rintro a ⟨j,need2,n2,u2,m2⟩ ha ⟨⟨hj,hT2⟩,hP2,hN2,hL3⟩
     dsimp only at hj hT2 hP2 hN2 hL3
     obtain⟨lo,hlo⟩:∃lo,k-a=lo+1:=⟨k-a-1,om⟩
     obtain rfl:j=((lo+1:Nat):Int):=om
     rw[hlo] at hN2
     have hlo2:lo+1<=k:=om
     have e1:((lo+1:Nat):Int)-1=(lo:Int):=om
     have hl2:=hN2.len
     obtain⟨n3,u3,m3,r3,a3,w3⟩:=pk hT2 (le_trans (Nat.add_le_add hL3 w12) om) ((hri.pre hP).pre hP2) (hN2.vd lo om) (hN2.vd (lo+1) hlo2)
     have l3:=a3.le
     refine⟨((lo:Int),bu need2 ((lo+1:Nat):Int) r3,n3,u3,m3),⟨⟨by dsimp only;omega,a3.ts⟩,hP2.trans a3.pre,?_,le_trans l3 om⟩,λN2 next hn=>condT (λ_=>?_) (λhc=>absurd (show(0:Int)<_ by omega) hc)⟩
     ·dsimp only
      rw[show k-(a+1)=lo by omega]
      exact Cg hN2 (c:=dn nodes (at' refs (i:Int))) hlo2 a3.pre a3.vd (λσ=>rfl) (by rw[a3.dn,gi (hri.pre hP) hP2,gi hri hP])
     ·rw[e1]
      exact⟨zRg,om,om,n3,u3,m3,r3,w3 _ ⟨rfl,rfl,rfl,rfl⟩,om,zRg,hn⟩)
   dsimp only at hj hT2 hP2 hN2 hL3
   have hL4:n2.length<=n1.length+268435456:=le_trans hL3 om
   refine⟨((i:Int)+1,need2,n2,u2,m2),⟨⟨by dsimp only;omega,hT2⟩,hP.trans hP2,⟨hN2.len,hN2.vd,λm hm=>?_⟩,le_trans hL4 om⟩,λQ next hn=>condT (λ_=>⟨om,w2 _ λnext2=>condT (λhc=>absurd hc om) (λ_=>⟨zRg,hn⟩)⟩) (λhc=>absurd (show(i:Int)<refs.length by omega) hc)⟩
   rw[hN2.dn m hm]
   funext σ
   rw[if_pos hm]
   by_cases h0:m=0
   ·subst h0;simp
   ·rw[if_neg om])
 dsimp only at hx hT hP hN hL
 subst hx
 have hrl2:=hN.len
 refine⟨n1,u1,m1,at' need (k:Int),⟨hT,hP,hN.vd k (le_refl _),?_,le_trans hL om⟩,λQ hQ=>⟨zRg,⟨om,om,om,om⟩,om,w Q λnext=>condT (λhc=>absurd hc om) (λ_=>⟨om,hQ⟩)⟩⟩
 rw[hN.dn k (le_refl _)]
 funext σ
 rw[if_pos (le_refl _)]
theorem E0 {f:GFormula} {i:Nat} (h:ju f i=0):((at' f.V (i:Int)).D=0->(at' f.V (i:Int)).K=0\/(at' f.V (i:Int)).K=1)/\((at' f.V (i:Int)).D=4->1<=(at' f.V (i:Int)).K/\(at' f.V (i:Int)).K<=((at' f.V (i:Int)).M.length:Int)):=by
 unfold ju at h
 split at h
 ·cases h
 split at h
 ·cases h
 split at h
 ·cases h
 split at h
 ·split at h
  ·cases h
  ·exact⟨λ_=>om,λhc=>om⟩
 split at h
 ·split at h
  ·cases h
  ·exact⟨λhc=>om,λ_=>om⟩
 ·exact⟨λhc=>om,λhc=>om⟩
theorem GN (h:TS o place nodes unique memo) (hn:o.length<=24) {x:GNode} {refs:List Int} {V:Asg->List Bool} (hk:0<=x.D/\x.D<=5) (hK:(x.D=0->x.K=0\/x.K=1)/\(x.D=4->1<=x.K/\x.K<=(x.M.length:Int)))
  (ha:mn x.D x.M.length=true) (hl:refs.length=x.M.length) (h16:x.M.length<=16) (hb:nodes.length<=549755813888) (hr:∀j:Nat,j<refs.length->Vd nodes (at' refs (j:Int))/\dn nodes (at' refs (j:Int))=λσ=>at' (V σ) (at' x.M (j:Int))) :
  ∃nodes' unique' memo' r,After o place nodes nodes' unique' memo' r (λσ=>iw x (V σ)) 4294967296/\
   ∀Q:List GDNode->GMap Int->GMap Int->Int->Prop,Q nodes' unique' memo' r->gN x refs o place nodes unique memo Q:=by
 have w12:=qy hn
 have hc:∀σ,kD (λj=>dn nodes (at' refs (j:Int)) σ) refs.length=cnt x (V σ) x.M.length:=λσ=>by
  rw[zN,hl]
  exact vQ _ λj hj=>by rw[(hr j om).2]
 have hr1:=λj hj=>(hr j hj).1
 rcases (by omega:x.D=0\/x.D=1\/x.D=2\/x.D=3\/x.D=5\/x.D=4) with k | k | k | k | k | k
 ·rcases hK.1 k with e | e
  ·refine⟨nodes,unique,memo,0,⟨h,Pre.refl _,vd0,?_,om⟩,λQ hQ=>bg (λ_=>by rw[e];exact hQ) (λhf=>by simp[k] at hf)⟩
   rw[dn0];funext σ;simp[iw,oh,k,e]
  ·refine⟨nodes,unique,memo,1,⟨h,Pre.refl _,vd1,?_,om⟩,λQ hQ=>bg (λ_=>by rw[e];exact hQ) (λhf=>by simp[k] at hf)⟩
   rw[dn1];funext σ;simp[iw,oh,k,e]
 ·have h1:x.M.length=1:=by simpa[mn,k] using ha
  obtain⟨n1,u1,m1,r,a,w⟩:=F7 h om (hr 0 om).1
  refine⟨n1,u1,m1,r,⟨a.ts,a.pre,a.vd,?_,by have:=a.le;omega⟩,λQ hQ=>bg (λhf=>by simp[k] at hf) (λ_=>bg (λ_=>⟨om,w _ hQ⟩) (λhf=>by simp[k] at hf))⟩
  rw[a.dn];funext σ
  have:=hc σ
  rw[hl,h1] at this
  rw[iw,h1,<-this]
  simp only[oh,k,kD]
  show _=((((0+if dn nodes (at' refs ((0:Nat):Int)) σ=true then 1 else 0):Nat):Int) == 0)
  cases dn nodes (at' refs ((0:Nat):Int)) σ<;>rfl
 ·obtain⟨n1,u1,m1,r,a,w⟩:=Ap EV h hn (refs:=refs) (first:=1) (c:=true) om hb vd1 dn1 hr1
  refine⟨n1,u1,m1,r,⟨a.ts,a.pre,a.vd,?_,a.le⟩,λQ hQ=>bg (λhf=>by simp[k] at hf) (λ_=>bg (λhf=>by simp[k] at hf) (λ_=>bg (λ_=>w Q hQ) (λhf=>by simp[k] at hf)))⟩
  rw[a.dn];funext σ
  rw[zG,hc σ,iw,hl]
  simp only[oh,k]
  rw[Bool.eq_iff_iff];simp;omega
 ·obtain⟨n1,u1,m1,r,a,w⟩:=Ap GG h hn (refs:=refs) (first:=0) (c:=false) om hb vd0 dn0 hr1
  refine⟨n1,u1,m1,r,⟨a.ts,a.pre,a.vd,?_,a.le⟩,λQ hQ=>bg (λhf=>by simp[k] at hf) (λ_=>bg (λhf=>by simp[k] at hf) (λ_=>bg (λhf=>by simp[k] at hf) (λ_=>bg (λ_=>w Q hQ) (λhf=>by simp[k] at hf))))⟩
  rw[a.dn];funext σ
  rw[Bw,hc σ,iw]
  simp only[oh,k]
  rw[Bool.eq_iff_iff];simp
 ·obtain⟨n1,u1,m1,r,a,w⟩:=Ap EU h hn (refs:=refs) (first:=0) (c:=false) om hb vd0 dn0 hr1
  refine⟨n1,u1,m1,r,⟨a.ts,a.pre,a.vd,?_,a.le⟩,λQ hQ=>bg (λhf=>by simp[k] at hf) (λ_=>bg (λhf=>by simp[k] at hf) (λ_=>bg (λhf=>by simp[k] at hf) (λ_=>bg (λhf=>by simp[k] at hf) (λ_=>bg (λ_=>w Q hQ) (λhf=>by simp[k] at hf)))))⟩
  rw[a.dn];funext σ
  rw[zF,hc σ,iw]
  simp only[oh,k]
  rw[Bool.eq_iff_iff]
  have:=Int.tmod_eq_emod_of_nonneg (a:=((cnt x (V σ) x.M.length:Nat):Int)) (b:=2) om
  simp[this];omega
 ·have k4:=hK.2 k
  obtain⟨kk,hkk⟩:∃kk:Nat,x.K=kk:=⟨x.K.toNat,om⟩
  obtain⟨n1,u1,m1,r,a,w⟩:=Gh h hn (refs:=refs) (k:=kk) om om hb hr1
  refine⟨n1,u1,m1,r,⟨a.ts,a.pre,a.vd,?_,a.le⟩,λQ hQ=>bg (λhf=>by simp[k] at hf) (λ_=>bg (λhf=>by simp[k] at hf) (λ_=>bg (λhf=>by simp[k] at hf) (λ_=>bg (λhf=>by simp[k] at hf) (λ_=>bg (λhf=>by simp[k] at hf) (λ_=>by rw[hkk];exact w Q hQ)))))⟩
  rw[a.dn];funext σ
  rw[hc σ,iw]
  simp only[oh,k,hkk]
  rw[Bool.eq_iff_iff];simp
end
def n0 (f:GFormula) (o:List Int):Int:=if jJ f≠0 then jJ f else tL o f.A
def fF (f:GFormula):Asg->Bool:=λσ=>FV f (jF σ f.A.toNat)
theorem o8 {f:GFormula} {o:List Int}:n0 f o=0↔FG f/\Or14 o/\(o.length:Int)=f.A:=by
 unfold n0
 constructor
 ·intro h
  split at h
  ·rename_i hc;exact absurd h hc
  ·rename_i hc
   have hl:(o.length:Int)=f.A:=by
    unfold tL at h
    split at h
    ·cases h
    split at h
    ·cases h
    ·rename_i hn;omega
   rw[<-hl] at h
   exact⟨kV.1 om,B7 h,hl⟩
 ·rintro⟨g,h,hl⟩
  rw[if_neg (by rw[kV.2 g];simp),<-hl]
  exact ER h
theorem G7 {f:GFormula} {o:List Int} (h:Or14 o) (hl:(o.length:Int)=f.A):Dep (fF f) (jI o):=λσ σ' hh=>by
 unfold fF
 rw[vU λv hv=>hh v (h.all om)]
def oR (x:GFormula) (i:Nat):Asg->Bool:=λσ=>at' (cO x (jF σ x.A.toNat) x.V.length) (x.A+i)
def pK (o:List Int) (F:Asg->Bool):Prop:=∀(place:List Int) (nodes:List GDNode) (unique memo:GMap Int) (r:Int) (Q:Bool->Prop),TS o place nodes unique memo->nodes.length<=1099511627776->Vd nodes r->dn nodes r=F->Q true->cr r 4096 o place nodes unique memo Q
theorem CD {o place:List Int} {nodes:List GDNode} {unique memo:GMap Int} (h:TS o place nodes unique memo) (hb:nodes.length<=1099511627776) {r:Int} (hr:Vd nodes r) {Q:Bool->Prop} (hQ:∀b,Q b):cr r 4096 o place nodes unique memo Q:=by
 obtain⟨s,c,w⟩:=CE h hb o.length (o.length+1) (seen:=jb) (r:=r) (most:=4096) om hr om
 exact⟨o.length+1,w _ (hQ _)⟩
section
variable {f:GFormula} {o:List Int}
theorem zU {x:GFormula} {place:List Int} {Q:GDiagram->Option Int->Prop} (g:FG x) (hl:(o.length:Int)=x.A) (hS:(∀i:Nat,i<x.V.length->pK o (oR x i))\/Q noD (some 4)) (hT:TS o place [] jb jb) (hQ:Q (vT o (fF x)) none) :
  bo (σ:=Int×(List Int)×(GMap Int)×(List GDNode)) (0,(bS (x.A+(x.V.length:Int)) 0),jb,[]) λ⟨x1,refs,x2,x3⟩ next1=>
     aq (decide (x1<x.A))
      (dd x1 o place x3 x2 jb λu u1 r3=>
      ((0:Int)<=x1/\x1<(refs.length:Int))/\
      rng (x1+1)/\
      next1 ((x1+1),(bu refs x1 r3),u1,u))
      (bo (σ:=Int×(List Int)×(GMap Int)×(GMap Int)×(List GDNode)) (0,refs,x2,jb,x3) λ⟨x4,refs1,x5,x6,x7⟩ next2=>
       aq (decide (x4<(x.V.length:Int)))
        (((0:Int)<=x4/\x4<(x.V.length:Int))/\
        bo (σ:=Int×(List Int)) (0,[]) λ⟨x8,args⟩ next3=>
         aq (decide (x8<(((at' x.V x4).M).length:Int)))
          (((0:Int)<=x8/\x8<(((at' x.V x4).M).length:Int))/\
          ((0:Int)<=(at' ((at' x.V x4).M) x8)/\(at' ((at' x.V x4).M) x8)<(refs1.length:Int))/\
          ((args++[(at' refs1 (at' ((at' x.V x4).M) x8))]).length*8<=140737488355328)/\
          rng (x8+1)/\
          next3 ((x8+1),(args++[(at' refs1 (at' ((at' x.V x4).M) x8))])))
          (rng (x.A+x4)/\
          ∃u2 u3 u4 r4,(gN (at' x.V x4) args o place x7 x5 x6 λy1 y2 y3 y4=>y1=u2/\y2=u3/\y3=u4/\y4=r4)/\
          ((0:Int)<=(x.A+x4)/\(x.A+x4)<(refs1.length:Int))/\
          rng (x.A+x4)/\
          ((0:Int)<=(x.A+x4)/\(x.A+x4)<(refs1.length:Int))/\
          cr (at' (bu refs1 (x.A+x4) r4) (x.A+x4)) 4096 o place u2 u3 u4 λr5=>
          aq (!r5)
           (Q (⟨[],[],0⟩:GDiagram) (some 4))
           (rng (x4+1)/\
           next2 ((x4+1),(bu refs1 (x.A+x4) r4),u3,u4,u2))))
        (((0:Int)<=x.F/\x.F<(refs1.length:Int))/\
        db (at' refs1 x.F) o place x7 x5 x6 λr6=>
        Q r6 none)):=by
 have v0:=g.v0;have v24:=g.v24;have n128:=g.n128
 have hn:o.length<=24:=om
 obtain⟨nv,hnv⟩:∃nv:Nat,x.A=nv:=⟨x.A.toNat,om⟩
 have hrl:((bS (x.A+(x.V.length:Int)) (0:Int)).length:Int)=x.A+x.V.length:=pu om
 refine ey (n:=nv) (λi (y:Int×List Int×GMap Int×List GDNode)=>(y.1=(i:Int)/\(y.2.1.length:Int)=x.A+x.V.length/\y.2.2.2.length<=i/\TS o place y.2.2.2 y.2.2.1 jb)/\∀v:Nat,v<i->Vd y.2.2.2 (at' y.2.1 (v:Int))/\dn y.2.2.2 (at' y.2.1 (v:Int))=λσ=>σ v) (λy=>y.1) 0 (λi y hy=>by rw[hy.1.1];omega) ⟨⟨rfl,hrl,Nat.zero_le _,hT⟩,λv hv=>absurd hv om⟩ ?_ ?_
 ·rintro i ⟨x1,refs,u1,n1⟩ next hi ⟨⟨hx,hl1,hl2,hT1⟩,hI⟩ hn1
  dsimp only at hx hl1 hl2 hT1 hI
  subst hx
  obtain⟨n2,u2,r2,a,w⟩:=FK hT1 om (v:=(i:Int)) om
  have:=a.le
  refine condT (λ_=>w _ ⟨om,zRg,hn1 _ ⟨⟨by dsimp only;omega,by dsimp only;rw[eu];exact hl1,by dsimp only;omega,a.ts⟩,λv hv=>?_⟩⟩) (λhc=>absurd (show(i:Int)<x.A by omega) hc)
  dsimp only
  rw[jY om]
  split
  ·rename_i he;subst he
   exact⟨a.vd,a.dn⟩
  ·have h1:=hI v om
   exact⟨h1.1.pre a.pre,by rw[gi h1.1 a.pre,h1.2]⟩
 rintro⟨x1,refs,u1,n1⟩ next ⟨⟨hx,hl1,hl2,hT1⟩,hI⟩
 dsimp only at hx hl1 hl2 hT1 hI
 subst hx
 refine condT (λhc=>absurd hc om) (λ_=>?_)
 refine ey (n:=x.V.length) (λi (y:Int×List Int×GMap Int×GMap Int×List GDNode)=>(y.1=(i:Int)/\(y.2.1.length:Int)=x.A+x.V.length/\y.2.2.2.2.length<=24+4294967296*i/\TS o place y.2.2.2.2 y.2.2.1 y.2.2.2.1)/\∀a:Nat,(a:Int)<x.A+i->Vd y.2.2.2.2 (at' y.2.1 (a:Int))/\dn y.2.2.2.2 (at' y.2.1 (a:Int))=λσ=>at' (cO x (jF σ nv) i) (a:Int)) (λy=>y.1) 0
  (λi y hy=>by rw[hy.1.1];omega) ⟨⟨rfl,hl1,by dsimp only;omega,hT1⟩,λa ha=>?_⟩ ?_ ?_
 ·dsimp only
  have h1:=hI a om
  refine⟨h1.1,?_⟩
  rw[h1.2]
  funext σ
  rw[jf om om,toNat_natCast,yk om]
 ·rintro i ⟨x4,refs1,u5,m5,n5⟩ next2 hi ⟨⟨hx,hr1,hl5,hT5⟩,hA⟩ hn2
  dsimp only at hx hr1 hl5 hT5 hA
  subst hx
  have ng:=gX (g.node i hi)
  have hin:=sM g hi
  have ll:=ng.len
  have hi128:i<128:=om
  have hl6:n5.length<=549755813888:=le_trans hl5 om
  refine condT (λ_=>⟨om,?_⟩) (λhc=>absurd (show(i:Int)<_ by omega) hc)
  refine fR (n:=(at' x.V (i:Int)).M.length) (λj=>((j:Int),((at' x.V (i:Int)).M.take j).map λa=>at' refs1 a)) (λy=>y.1) 0 (λj=>by dsimp only;omega) rfl (λj next3 hj hn3=>?_) (λnext3=>?_)
  ·have h3:=hin _ (tl hj)
   dsimp only
   refine condT (λ_=>⟨om,om,by rw[ir,length_map,length_take];omega,zRg,?_⟩) (λhc=>absurd (show(j:Int)<_ by omega) hc)
   rw[nL hj,map_append] at hn3
   exact hn3
  ·refine condT (λhc=>absurd hc om) (λ_=>?_)
   rw[take_length]
   obtain⟨n6,u6,m6,r6,a,w⟩:=GN hT5 hn (x:=at' x.V (i:Int)) (refs:=(at' x.V (i:Int)).M.map λa=>at' refs1 a) (V:=λσ=>cO x (jF σ nv) i) ⟨ng.k0,ng.k5⟩ (E0 (g.node i hi)) ng.args (by rw[length_map]) ll hl6 (λj hj=>by
    rw[length_map] at hj
    have h3:=hin _ (tl hj)
    rw[yo hj]
    have:=hA (at' (at' x.V (i:Int)).M (j:Int)).toNat om
    rw[show(((at' (at' x.V (i:Int)).M (j:Int)).toNat:Nat):Int)=at' (at' x.V (i:Int)).M (j:Int) by omega] at this
    exact this)
   have l6:=a.le
   have hl7:n6.length<=24+4294967296*(i+1):=le_trans l6 om
   have eset:at' (bu refs1 (x.A+i) r6) (x.A+i)=r6:=by rw[jG om om,if_pos rfl]
   refine⟨zRg,n6,u6,m6,r6,w _ ⟨rfl,rfl,rfl,rfl⟩,om,zRg,om,?_⟩
   rw[eset]
   have hfin:∀P:Bool->Prop,P true->(Q noD (some 4)->P false)->cr r6 4096 o place n6 u6 m6 P:=λP h1 h2=>by
    rcases hS with hS | hS
    ·refine hS i hi _ _ _ _ _ _ a.ts (le_trans hl7 om) a.vd ?_ h1
     rw[a.dn]
     funext σ
     unfold oR
     rw[pm v0 hi,hnv,toNat_natCast]
    ·exact CD a.ts (le_trans hl7 om) a.vd λb=>match b with
      | false=>h2 hS
      | true=>h1
   refine hfin _ (bg (λhc=>by cases hc) (λ_=>⟨zRg,hn2 _ ⟨⟨by dsimp only;omega,by dsimp only;rw[eu];exact hr1,hl7,a.ts⟩,λb hb=>?_⟩⟩)) (λh4=>bg (λ_=>h4) (λhc=>by cases hc))
   show Vd n6 (at' (bu refs1 (x.A+i) r6) (b:Int))/\dn n6 (at' (bu refs1 (x.A+i) r6) (b:Int))=_
   rw[jG om om]
   by_cases hbi:(b:Int)=x.A+i
   ·rw[if_pos hbi,hbi]
    refine⟨a.vd,?_⟩
    rw[a.dn]
    funext σ
    have hvl:((cO x (jF σ nv) i).length:Int)=x.A+i:=by rw[kf];omega
    rw[cO,<-hvl,iY]
   ·rw[if_neg hbi]
    have h1:=hA b om
    refine⟨h1.1.pre a.pre,?_⟩
    rw[gi h1.1 a.pre,h1.2]
    funext σ
    rw[ke (m:=i) om om (i+1) om]
 ·rintro⟨x4,refs1,u5,m5,n5⟩ next2 ⟨⟨hx,hr1,hl5,hT5⟩,hA⟩
  dsimp only at hx hr1 hl5 hT5 hA
  subst hx
  have t0:=g.top0;have tt:=g.top
  have ht:=hA x.F.toNat om
  rw[show((x.F.toNat:Nat):Int)=x.F by omega] at ht
  refine condT (λhc=>absurd hc om) (λ_=>⟨om,Ev hT5 (le_trans hl5 om) ht.1 ?_⟩)
  rw[ht.2]
  have:(λσ=>at' (cO x (jF σ nv) x.V.length) x.F)=fF x:=by
   funext σ;unfold fF FV;rw[hnv];rfl
  rw[this]
  exact hQ
theorem ot {Q:GDiagram->Option Int->Prop} (ht:rng f.F) (h1:n0 f o≠0->Q noD (some (n0 f o))) (hn:n0 f o=0->(∀i:Nat,i<f.V.length->pK o (oR f i))\/Q noD (some 4)) (h2:n0 f o=0->Q (vT o (fF f)) none):iT f o Q:=by
 refine Hr ht (λhc=>?_) (λg r a hr hr0=>?_)
 ·have e:n0 f o=jJ f:=if_pos hc
  rw[e] at h1
  exact bg (λ_=>h1 hc) (λhf=>by cases hf)
 ·refine bg (λhf=>by cases hf) (λ_=>?_)
  have e:n0 f o=tL o f.A:=if_neg (by rw[kV.2 g];simp)
  refine wC ?_
  by_cases h0:tL o f.A=0
  ·rw[h0]
   have hz:n0 f o=0:=by rw[e,h0]
   obtain⟨_,hO,hl⟩:=o8.1 hz
   have hS:=hn hz
   have hQ:=h2 hz
   have v0:=g.v0;have n128:=g.n128
   refine bg (λhf=>by cases hf) (λ_=>⟨λx=>FG x/\x.A=f.A/\(∀s,FV x s=FV f s)/\∀n:Nat,n<x.V.length->∃k:Nat,k<f.V.length/\∀s,at' (cO x s x.V.length) (f.A+n)=at' (cO f s f.V.length) (f.A+k),?_,?_⟩)
   ·refine condT (λ_=>Hp g (λx gx hv hf hN=>bg (λhc=>by cases hc) (λ_=>⟨gx,hv,hf,hN⟩))) (λhc=>?_)
    have htv:=hr0 om
    refine⟨⟨g.v0,g.v24,by simp,λi hi=>by simp at hi,g.top0,by simpa using htv⟩,rfl,λs=>?_,λn hn=>by simp at hn⟩
    show at' (cO ⟨f.A,[],f.F⟩ s 0) f.F=at' (cO f s f.V.length) f.F
    rw[jf (f:=⟨f.A,[],f.F⟩) g.top0 htv,jf g.top0 htv]
   ·rintro x ⟨gx,hv,hf,hN⟩
    have hSx:(∀i:Nat,i<x.V.length->pK o (oR x i))\/Q noD (some 4):=by
     rcases hS with hS | hS
     ·refine .inl λi hi=>?_
      obtain⟨k,hk,hkv⟩:=hN i hi
      have e:oR x i=oR f k:=by funext σ;unfold oR;rw[hv,hkv]
      rw[e]
      exact hS k hk
     ·exact .inr hS
    refine Ih hO (λplace hT=>⟨by unfold rng;have:=gx.v24;have:=gx.n128;have:=gx.v0;omega,⟨by have:=gx.v24;have:=gx.n128;have:=gx.v0;omega,by have:=gx.v24;have:=gx.n128;have:=gx.v0;omega,by have:=gx.v24;have:=gx.n128;have:=gx.v0;omega,by have:=gx.v24;have:=gx.n128;have:=gx.v0;omega⟩,zU gx om hSx hT ?_⟩)
    have:fF x=fF f:=by funext σ;unfold fF;rw[hv,hf]
    rw[this]
    exact hQ
  ·have e2:lE (tL o f.A)=some (tL o f.A):=vK h0
   rw[e2]
   rw[e] at h1
   exact bg (λ_=>h1 h0) (λhf=>by cases hf)
end
def ou (o:List Int) (k:Nat) (σ ρ:Asg):Asg:=λv=>if dw o v<k then σ v else ρ v
def FI (o:List Int) (F:Asg->Bool) (c:Nat):Prop:=∀k,∃st:Asg->Nat,(∀σ,st σ<c)/\∀σ σ',st σ=st σ'->∀ρ,F (ou o k σ ρ)=F (ou o k σ' ρ)
def CF (o:List Int) (N:List GDNode) (F:Asg->Bool) (q:Nat):Prop:=∃σ,∀τ,den N τ q=F (ou o (lvl o.length (dw o) N q) σ τ)
structure SN (o:List Int) (N:List GDNode) (F:Asg->Bool) (seen:GMap Bool) (K:List Nat):Prop where
 nd:K.Nodup
 n:seen.n=K.length
 mem:∀q:Int,2<=q->cP seen [q]=if q.toNat∈K then some true else none
 ok:∀q∈K,(2<=q/\q<2+N.length)/\CF o N F q
theorem D5 {a a' s s' c:Nat} (h:a*c+s=a'*c+s') (hs:s<c) (hs':s'<c):a=a'/\s=s':=by
 rcases Nat.lt_trichotomy a a' with h1 | h1 | h1
 ·have:=mul_le_mul_right c (show a+1<=a' from h1)
  rw[succ_mul] at this
  omega
 ·subst h1;exact⟨rfl,om⟩
 ·have:=mul_le_mul_right c (show a'+1<=a from h1)
  rw[succ_mul] at this
  omega
section
variable {o place:List Int} {nodes:List GDNode} {unique memo:GMap Int} {F:Asg->Bool} {c:Nat}
theorem CF.kid (h:TS o place nodes unique memo) {r:Int} (hr:Vd nodes r) (h2:2<=r) (hc:CF o nodes F r.toNat) (b:Bool):CF o nodes F (bif b then (at' nodes (r-2)).X.toNat else (at' nodes (r-2)).W.toNat):=by
 obtain⟨hx,hv,hlo,hhi,e,el,eh⟩:=h.at hr h2
 obtain⟨σ,hσ⟩:=hc
 have hr2:=hr.2
 have hq:(bif b then (at' nodes (r-2)).X.toNat else (at' nodes (r-2)).W.toNat)<2+nodes.length:=by cases b<;>simp only[cond_true,cond_false]<;>omega
 have hlq:lvl o.length (dw o) nodes r.toNat<lvl o.length (dw o) nodes (bif b then (at' nodes (r-2)).X.toNat else (at' nodes (r-2)).W.toNat):=by cases b<;>simp only[cond_true,cond_false]<;>assumption
 have er:2+(r-2).toNat=r.toNat:=om
 have e':lvl o.length (dw o) nodes r.toNat=dw o (at' nodes (r-2)).H.toNat:=e
 generalize hqq:(bif b then (at' nodes (r-2)).X.toNat else (at' nodes (r-2)).W.toNat)=q at hq hlq ⊢
 refine⟨λw=>if dw o w<lvl o.length (dw o) nodes r.toNat then σ w else if w=(at' nodes (r-2)).H.toNat then b else false,λτ=>?_⟩
 have h1:den nodes τ q=den nodes (ou o (lvl o.length (dw o) nodes q) (λ_=>false) τ) q:=WT.dep h.ord.ord h.wt hq _ _ λw hw=>by
  have:=(h.ord.ord.mem.1 hw).2
  unfold ou
  rw[if_neg om]
 have h3:=h.wt.den_cof hx (ou o (lvl o.length (dw o) nodes q) (λ_=>false) τ) b
 rw[hqq,er] at h3
 rw[h1,<-h3,hσ]
 congr 1
 funext w
 simp only[ou]
 by_cases hw:dw o w<lvl o.length (dw o) nodes r.toNat
 ·rw[if_pos hw,if_pos om,if_pos hw]
 ·rw[if_neg hw,if_neg hw]
  by_cases hwv:w=(at' nodes (r-2)).H.toNat
  ·rw[hwv,fJ,if_pos rfl,if_pos om]
  ·rw[gI hwv,if_neg hwv]
   rfl
theorem SN.few (hT:TS o place nodes unique memo) (hF:FI o F c) {seen:GMap Bool} {K:List Nat} (h:SN o nodes F seen K):K.length<=o.length*c:=by
 let st:Nat->Asg->Nat:=λk=>Classical.choose (hF k)
 have st1:∀k σ,st k σ<c:=λk=>(Classical.choose_spec (hF k)).1
 have st2:∀k σ σ',st k σ=st k σ'->∀ρ,F (ou o k σ ρ)=F (ou o k σ' ρ):=λk=>(Classical.choose_spec (hF k)).2
 have hsg:∀q,∃σ:Asg,CF o nodes F q->∀τ,den nodes τ q=F (ou o (lvl o.length (dw o) nodes q) σ τ):=λq=>by
  by_cases hc:CF o nodes F q
  ·obtain⟨σ,hσ⟩:=hc
   exact⟨σ,λ_=>hσ⟩
  ·exact⟨λ_=>false,λhh=>absurd hh hc⟩
 let sg:Nat->Asg:=λq=>Classical.choose (hsg q)
 have sg1:∀q∈K,∀τ,den nodes τ q=F (ou o (lvl o.length (dw o) nodes q) (sg q) τ):=λq hq=>Classical.choose_spec (hsg q) (h.ok q hq).2
 let code:Nat->Nat:=λq=>lvl o.length (dw o) nodes q*c+st (lvl o.length (dw o) nodes q) (sg q)
 have hlen:(K.map code).length=K.length:=length_map ..
 rw[<-hlen]
 refine oQ _ _ ?_ λx hx=>?_
 ·rw[List.Nodup,pairwise_map]
  refine List.Pairwise.imp_of_mem (λ{a b} ha hb hne hab=>hne ?_) h.nd
  have hab:lvl o.length (dw o) nodes a*c+st (lvl o.length (dw o) nodes a) (sg a)=lvl o.length (dw o) nodes b*c+st (lvl o.length (dw o) nodes b) (sg b):=hab
  obtain⟨e1,e2⟩:=D5 hab (st1 _ _) (st1 _ _)
  refine WT.canon hT.ord.ord.lv hT.wt (h.ok a ha).1.2 (h.ok b hb).1.2 λτ=>?_
  rw[sg1 a ha,sg1 b hb,e1]
  rw[e1] at e2
  exact st2 _ _ _ e2 τ
 ·obtain⟨q,hq,rfl⟩:=List.mem_map.1 hx
  have h1:=st1 (lvl o.length (dw o) nodes q) (sg q)
  have h2:=(h.ok q hq).1
  have hr:Vd nodes (q:Int):=⟨om,om⟩
  obtain⟨hx,hv,_,_,e,_⟩:=hT.at hr om
  have h3:=(hT.ord.at_lev (v:=(at' nodes ((q:Int)-2)).H.toNat) om).1
  have e':lvl o.length (dw o) nodes q=dw o (at' nodes ((q:Int)-2)).H.toNat:=e
  have h4:=mul_le_mul_right c (show lvl o.length (dw o) nodes q+1<=o.length by omega)
  rw[succ_mul] at h4
  show lvl o.length (dw o) nodes q*c+st (lvl o.length (dw o) nodes q) (sg q)<_
  omega
theorem zT (h:TS o place nodes unique memo) (hb:nodes.length<=1099511627776):∀(k fu:Nat) {seen:GMap Bool} {K:List Nat} {r most:Int},k<fu->Vd nodes r->o.length<=k+lvO o nodes r->SN o nodes F seen K->CF o nodes F r.toNat->
  ∃(seen':GMap Bool) (K':List Nat),SN o nodes F seen' K'/\∀Q:GMap Bool->Prop,Q seen'->aT fu r most seen o place nodes unique memo Q:=by
 intro k
 induction k with
 | zero=>
  intro fu seen K r most hfu hr hk hs hc
  obtain⟨f,rfl⟩:∃f,fu=f+1:=⟨fu-1,om⟩
  refine⟨seen,K,hs,λQ hQ=>?_⟩
  rw[aT]
  refine condT (λ_=>hQ) (λhc=>?_)
  obtain⟨_,x,_,_,e,_⟩:=h.at hr om
  have:=(h.ord.at_lev (v:=(at' nodes (r-2)).H.toNat) om).1
  omega
 | succ k ih=>
  intro fu seen K r most hfu hr hk hs hc
  obtain⟨f,rfl⟩:∃f,fu=f+1:=⟨fu-1,om⟩
  by_cases h2:r<2
  ·refine⟨seen,K,hs,λQ hQ=>?_⟩
   rw[aT]
   exact condT (λ_=>hQ) (λhc=>absurd h2 hc)
  by_cases h3:getD (cP seen [r]) false=true
  ·refine⟨seen,K,hs,λQ hQ=>?_⟩
   rw[aT]
   exact condT (λ_=>hQ) (λ_=>bg (λ_=>hQ) (λhc=>by rw[h3] at hc;cases hc))
  by_cases h4:most<((GMap.n seen:Nat):Int)
  ·refine⟨seen,K,hs,λQ hQ=>?_⟩
   rw[aT]
   exact condT (λ_=>hQ) (λ_=>bg (λ_=>hQ) (λ_=>condT (λ_=>hQ) (λhc=>absurd h4 hc)))
  obtain⟨_,_,xl,xh,_,xlo,xhi⟩:=h.at hr om
  have hr2:=hr.2
  have hm:=hs.mem r om
  have hnot:r.toNat∉K:=λhin=>by rw[hm,if_pos hin] at h3;exact h3 rfl
  rw[if_neg hnot] at hm
  have hs1:SN o nodes F (mput seen [r] true) (r.toNat :: K):=by
   refine⟨List.nodup_cons.2 ⟨hnot,hs.nd⟩,?_,λq hq=>?_,λq hq=>?_⟩
   ·have hm':seen.f [r]=none:=hm
    have:=hs.n
    show(bif (seen.f [r]).isSome then seen.n else seen.n+1)=_
    rw[hm',length_cons]
    show seen.n+1=_
    omega
   ·rw[eW]
    by_cases hqr:q=r
    ·rw[if_pos hqr,hqr,if_pos zSm]
    ·rw[if_neg hqr,hs.mem q hq]
     have:q.toNat∈r.toNat :: K↔q.toNat∈K:=by
      rw[mem_cons]
      exact⟨λhh=>hh.resolve_left om,.inr⟩
     by_cases hin:q.toNat∈K
     ·rw[if_pos hin,if_pos (this.2 hin)]
     ·rw[if_neg hin,if_neg (λhh=>hin (this.1 hh))]
   ·rcases List.mem_cons.1 hq with rfl | hq
    ·exact⟨⟨om,om⟩,hc⟩
    ·exact hs.ok q hq
  obtain⟨s1,K1,c1,w1⟩:=ih f (seen:=mput seen [r] true) (r:=(at' nodes (r-2)).W) (most:=most) om ⟨xl.1,om⟩ om hs1 (CF.kid h hr om hc false)
  obtain⟨s2,K2,c2,w2⟩:=ih f (seen:=s1) (r:=(at' nodes (r-2)).X) (most:=most) om ⟨xh.1,om⟩ om c1 (CF.kid h hr om hc true)
  refine⟨s2,K2,c2,λQ hQ=>?_⟩
  rw[aT]
  exact condT (λhc=>absurd hc h2) (λ_=>bg (λhc=>absurd hc h3) (λ_=>condT (λhc=>absurd hc h4) (λ_=>⟨zRg,⟨om,om⟩,s1,w1 _ rfl,zRg,⟨om,om⟩,s2,w2 _ rfl,hQ⟩)))
end
theorem pK.fin {o:List Int} {F:Asg->Bool} {c:Nat} (hF:FI o F c) (hc:o.length*c<=4096):pK o F:=by
 intro place nodes unique memo r Q h hb hr hd hQ
 have hcf:CF o nodes F r.toNat:=by
  refine⟨λ_=>false,λτ=>?_⟩
  have h1:den nodes τ r.toNat=den nodes (ou o (lvl o.length (dw o) nodes r.toNat) (λ_=>false) τ) r.toNat:=WT.dep h.ord.ord h.wt hr.2 _ _ λw hw=>by
   have:=(h.ord.ord.mem.1 hw).2
   unfold ou
   rw[if_neg om]
  rw[h1]
  exact congrFun hd _
 have h0:SN o nodes F (jb:GMap Bool) []:=⟨List.nodup_nil,rfl,λq _=>by rw[rt,if_neg zSm],λq hq=>by simp at hq⟩
 obtain⟨s,K,hs,w⟩:=zT h hb o.length (o.length+1) (seen:=jb) (r:=r) (most:=4096) om hr om h0 hcf
 have h1:=hs.few h hF
 have h2:=hs.n
 refine⟨o.length+1,w _ ?_⟩
 rw[decide_eq_true om]
 exact hQ
def ex (p:Nat->Rat):List Nat->(Asg->Rat)->Asg->Rat
 | [],g,σ=>g σ
 | v :: l,g,σ=>(1-p v)*ex p l g (cz σ v false)+p v*ex p l g (cz σ v true)
def b2q (b:Bool):Rat:=bif b then 1 else 0
theorem lK {σ:Asg} {a b:Nat} {x y:Bool} (h:a≠b):cz (cz σ a x) b y=cz (cz σ b y) a x:=by
 funext i
 by_cases h1:i=b
 ·have h2:i≠a:=λe=>h (e.symm.trans h1)
  rw[gI h2,h1,fJ,fJ]
 ·rw[gI h1]
  by_cases h2:i=a
  ·rw[h2,fJ,fJ]
  ·rw[gI h2,gI h2,gI h1]
section
variable {p:Nat->Rat}
theorem rH:∀(l:List Nat) {g g':Asg->Rat} {σ:Asg},(∀τ:Asg,(∀v,v∉l->τ v=σ v)->g τ=g' τ)->ex p l g σ=ex p l g' σ
 | [],_,_,_,h=>h _ λ_ _=>rfl
 | v :: l,g,g',σ,h=>by
  have e:∀b,ex p l g (cz σ v b)=ex p l g' (cz σ v b):=λb=>rH l λτ ht=>h τ λw hw=>by
   rw[mem_cons,not_or] at hw
   rw[ht w hw.2,gI hw.1]
  rw[ex,ex,e,e]
theorem nX (l:List Nat) {g g':Asg->Rat} {σ:Asg} (h:∀τ,g τ=g' τ):ex p l g σ=ex p l g' σ:=rH l λτ _=>h τ
theorem Ax:∀(l l':List Nat) {g:Asg->Rat} {σ:Asg},ex p (l++l') g σ=ex p l (λτ=>ex p l' g τ) σ
 | [],_,_,_=>rfl
 | v :: l,l',g,σ=>by rw[List.cons_append,ex,ex,Ax l l',Ax l l']
theorem o4:∀(l:List Nat) {c:Rat} {σ:Asg},ex p l (λ_=>c) σ=c
 | [],_,_=>rfl
 | v :: l,c,σ=>by rw[ex,o4 l,o4 l];grind
theorem sF:∀(l:List Nat) {g:Asg->Rat} {σ:Asg} {v:Nat} {b:Bool},v∉l->ex p l g (cz σ v b)=ex p l (λτ=>g (cz τ v b)) σ
 | [],_,_,_,_,_=>rfl
 | w :: l,g,σ,v,b,h=>by
  rw[mem_cons,not_or] at h
  rw[ex,ex,lK h.1,lK h.1,sF l h.2,sF l h.2]
theorem Fi {l:List Nat} {g:Asg->Rat} {σ:Asg} {v:Nat} (hv:v∉l) (h:∀τ b,g (cz τ v b)=g τ):ex p (v :: l) g σ=ex p l g σ:=by
 rw[ex,sF l hv,sF l hv,nX l λτ=>h τ false,nX l λτ=>h τ true]
 grind
theorem Fj {l l':List Nat} (h:l.Perm l'):l.Nodup->∀ {g:Asg->Rat} {σ:Asg},ex p l g σ=ex p l' g σ:=by
 induction h with
 | nil=>intro _ g σ;rfl
 | cons x _ ih=>
  intro hn g σ
  rw[ex,ex,ih (List.nodup_cons.1 hn).2,ih (List.nodup_cons.1 hn).2]
 | swap x y l=>
  intro hn g σ
  have hne:y≠x:=λe=>(List.nodup_cons.1 hn).1 (by rw[e];exact List.mem_cons_self)
  simp only[ex]
  rw[lK (σ:=σ) (x:=false) (y:=false) hne,lK (σ:=σ) (x:=false) (y:=true) hne,lK (σ:=σ) (x:=true) (y:=false) hne,lK (σ:=σ) (x:=true) (y:=true) hne]
  grind
 | trans h1 h2 ih1 ih2=>intro hn g σ;rw[ih1 hn,ih2 (h1.nodup_iff.1 hn)]
theorem D0:∀(l:List Nat) {g:Asg->Rat} {σ:Asg},(∀v∈l,0<=p v/\p v<=1)->(∀τ,0<=g τ/\g τ<=1)->0<=ex p l g σ/\ex p l g σ<=1
 | [],_,σ,_,h=>h σ
 | v :: l,g,σ,hp,h=>by
  have h1:=D0 l (σ:=cz σ v false) (λw hw=>hp w (by simp[hw])) h
  have h2:=D0 l (σ:=cz σ v true) (λw hw=>hp w (by simp[hw])) h
  have h0:=hp v zSm
  rw[ex]
  generalize ex p l g (cz σ v false)=a at h1 ⊢
  generalize ex p l g (cz σ v true)=b at h2 ⊢
  generalize p v=x at h0 ⊢
  have hx:0<=1-x:=by grind
  have a1:=Rat.mul_nonneg hx h1.1
  have a2:=Rat.mul_nonneg h0.1 h2.1
  have a3:=Rat.mul_le_mul_of_nonneg_left h1.2 hx
  have a4:=Rat.mul_le_mul_of_nonneg_left h2.2 h0.1
  constructor<;>grind
def vO (p:Nat->Rat):List Nat->Nat
 | []=>1
 | v :: l=>(p v).den*vO p l
theorem vN:∀l,0<vO p l
 | []=>Nat.one_pos
 | v :: l=>Nat.mul_pos (p v).den_pos (vN l)
theorem BF {e:Nat}:∀l,(∀v∈l,RB e (p v))->vO p l<2^(e*l.length+1)
 | [],_=>by simp[vO]
 | v :: l,h=>by
  have h1:=BF l λw hw=>h w (by simp[hw])
  have h2:=(h v zSm).2
  rw[vO,length_cons,show e*(l.length+1)+1=e+(e*l.length+1) by rw[Nat.mul_add];omega,Nat.pow_add]
  have:=vN (p:=p) l
  exact Nat.lt_of_lt_of_le (Nat.mul_lt_mul_of_pos_right h2 this) (Nat.mul_le_mul_left _ (Nat.le_of_lt h1))
theorem Aw:∀(l:List Nat) {g:Asg->Rat} {σ:Asg},(∀τ,∃z:Int,g τ=z)->∃z:Int,ex p l g σ*(vO p l:Rat)=z
 | [],_,σ,h=>by
  obtain⟨z,hz⟩:=h σ
  exact⟨z,by rw[ex,hz,vO];simp⟩
 | v :: l,g,σ,h=>by
  obtain⟨a,ha⟩:=Aw l (σ:=cz σ v false) h
  obtain⟨b,hb⟩:=Aw l (σ:=cz σ v true) h
  have hne:((p v).den:Rat)≠0:=by
   have:=(p v).den_nz
   exact_mod_cast this
  have hd:p v*((p v).den:Rat)=((p v).num:Rat):=calc
   p v*((p v).den:Rat)=((p v).num:Rat) / ((p v).den:Rat)*((p v).den:Rat):=by rw[<-Rat.mkRat_eq_div,Rat.mkRat_self]
   _=((p v).num:Rat):=Rat.div_mul_cancel hne
  refine⟨((p v).den-(p v).num)*a+(p v).num*b,?_⟩
  rw[ex,vO]
  have e:((1-p v)*ex p l g (cz σ v false)+p v*ex p l g (cz σ v true))*(((p v).den*vO p l:Nat):Rat)=(((p v).den:Rat)-p v*((p v).den:Rat))*(ex p l g (cz σ v false)*(vO p l:Rat))+(p v*((p v).den:Rat))*(ex p l g (cz σ v true)*(vO p l:Rat)):=by
   rw[Rat.natCast_mul];grind
  rw[e,ha,hb,hd]
  push_cast
  rfl
theorem Ht {x:Rat} {D e:Nat} {z:Int} (h0:0<=x) (h1:x<=1) (hz:x*(D:Rat)=z) (hD:0<D) (he:D<2^e):RB e x:=by
 have hDr:(0:Rat)<(D:Rat):=by exact_mod_cast hD
 have hx:x=mkRat z D:=by
  rw[Rat.mkRat_eq_div]
  show x=(z:Rat) / (D:Rat)
  rw[<-hz]
  grind
 have z0:0<=z:=by
  have:(0:Rat)<=(z:Rat):=by rw[<-hz];exact Rat.mul_nonneg h0 (Rat.le_of_lt hDr)
  exact_mod_cast this
 have z1:z<=(D:Int):=by
  have:(z:Rat)<=((D:Int):Rat):=by
   rw[<-hz]
   have:=Rat.mul_le_mul_of_nonneg_right h1 (Rat.le_of_lt hDr)
   rw[Rat.one_mul] at this
   exact this
  exact_mod_cast this
 rw[hx]
 exact rT om om he
theorem Hn (b:Bool):0<=b2q b/\b2q b<=1:=by cases b<;>decide
theorem Fv (b:Bool):∃z:Int,b2q b=z:=match b with
 | false=>⟨0,rfl⟩
 | true=>⟨1,rfl⟩
theorem H_ {l:List Nat} {f:Asg->Bool} {σ:Asg} {e:Nat} (hp:∀v∈l,0<=p v/\p v<=1) (he:∀v∈l,RB e (p v)):RB (e*l.length+1) (ex p l (λτ=>b2q (f τ)) σ):=by
 obtain⟨h1,h2⟩:=D0 l (σ:=σ) hp λτ=>Hn (f τ)
 obtain⟨z,hz⟩:=Aw (p:=p) l (σ:=σ) λτ=>Fv (f τ)
 exact Ht h1 h2 hz (vN l) (BF l he)
variable {n:Nat} {lev:Nat->Nat} {ord:List Nat} {N:List GDNode}
theorem yc (hO:OrdL n lev ord) (h:WT n lev N) {r:Nat} (hr:r<2+N.length) {σ:Asg}:∀l0,l0<=lvl n lev N r->ex p (ord.drop l0) (λτ=>b2q (den N τ r)) σ=ex p ord (λτ=>b2q (den N τ r)) σ
 | 0,_=>by rw[List.drop_zero]
 | l0+1,hl=>by
  have hn:=WT.lvl_le hO.lv h (r:=r)
  have hlen:=hO.len
  have hg:ord[l0]? = some ord[l0]:=List.getElem?_eq_getElem om
  obtain⟨hv,hlv⟩:=hO.at_ _ _ hg
  have hd:=hO.drop hv
  rw[hlv] at hd
  have hnot:ord[l0]∉ord.drop (l0+1):=λhm=>by have:=(hO.mem.1 hm).2;omega
  have:=yc hO h hr (σ:=σ) l0 om
  rw[hd,Fi hnot λτ b=>by rw[h.den_set hr om τ]] at this
  exact this
def pr (p:Nat->Rat) (N:List GDNode) (ord:List Nat) (r:Nat):Rat:=ex p ord (λτ=>b2q (den N τ r)) (λ_=>false)
theorem EP:pr p N ord 0=0:=by
 unfold pr
 rw[nX ord (g':=λ_=>0) λτ=>by rw[hY];rfl,o4]
theorem GD:pr p N ord 1=1:=by
 unfold pr
 rw[nX ord (g':=λ_=>1) λτ=>by rw[jC];rfl,o4]
theorem EQ (hO:OrdL n lev ord) (h:WT n lev N) {i:Nat} {x:GDNode} (hx:N[i]? = some x):pr p N ord (2+i)=(1-p x.H.toNat)*pr p N ord x.W.toNat+p x.H.toNat*pr p N ord x.X.toNat:=by
 have nd:=h.nd i x hx
 have hi:i<N.length:=(List.getElem?_eq_some_iff.1 hx).1
 have hv:x.H.toNat<n:=by have:=nd.var;omega
 have hlv:lvl n lev N (2+i)=lev x.H.toNat:=nV hx
 have hnot:x.H.toNat∉ord.drop (lev x.H.toNat+1):=λhm=>by have:=(hO.mem.1 hm).2;omega
 have h1:=nd.lo;have h2:=nd.hi;have h3:=nd.llo;have h4:=nd.lhi
 unfold pr
 rw[<-yc hO h (r:=2+i) om (lev x.H.toNat) om,hO.drop hv,ex,sF _ hnot,sF _ hnot]
 rw[nX (g:=λτ=>b2q (den N (cz τ x.H.toNat false) (2+i))) (g':=λτ=>b2q (den N τ x.W.toNat)) _ λτ=>by rw[h.den_cof hx τ false];rfl]
 rw[nX (g:=λτ=>b2q (den N (cz τ x.H.toNat true) (2+i))) (g':=λτ=>b2q (den N τ x.X.toNat)) _ λτ=>by rw[h.den_cof hx τ true];rfl]
 rw[<-yc hO h (r:=x.W.toNat) om (lev x.H.toNat+1) om,<-yc hO h (r:=x.X.toNat) om (lev x.H.toNat+1) om]
end
theorem F1 {α:Type} [Inhabited α] {l:List α} {i:Nat} (h:i<l.length):at' l (i:Int)=l[i]:=by
 unfold at'
 rw[List.getD_eq_getElem?_getD,toNat_natCast,List.getElem?_eq_getElem h]
 rfl
section
variable {lt:Int->Int->Bool}
end
structure Bij (n:Nat) (p a:Nat->Nat):Prop where
 lt:∀v,v<n->p v<n
 lt':∀k,k<n->a k<n
 ap:∀v,v<n->a (p v)=v
 pa:∀k,k<n->p (a k)=k
section
variable {d:GDiagram}
theorem Ib {e:Int} {A B:Prop} (h0:e≠0->A) (h1:e=0->B):aq (isSome (lE e)) A B:=by
 by_cases h:e=0
 ·rw[h];exact bg (λhc=>by cases hc) (λ_=>h1 h)
 ·exact bg (λ_=>h0 h) (λhc=>by rw[Cy h] at hc;cases hc)
end
def oU (n:Nat):List Int:=(range n).map λi:Nat=>(i:Int)
theorem zn {n:Nat}:(oU n).length=n:=by simp[oU]
theorem zr {n:Nat} {x:Int}:x∈oU n↔0<=x/\x<n:=by
 simp only[oU,List.mem_map,List.mem_range]
 constructor
 ·rintro⟨i,h,rfl⟩;omega
 ·intro h;exact⟨x.toNat,om,om⟩
theorem Ch {n:Nat}:oU (n+1)=oU n++[(n:Int)]:=by simp[oU,range_succ]
section
variable {o:List Int}
end
section
variable {o a b:List Int}
end
section
variable {f:GFormula}
def qE (f:GFormula):Nat->Int->List Int×List Bool->List Int×List Bool
 | 0,_,s=>s
 | fu+1,arg,s=>if at' s.2 arg=true then s else if arg<f.A then (s.1++[arg],bu s.2 arg true) else (at' f.V (arg-f.A)).M.foldl (λs x=>qE f fu x s) (s.1,bu s.2 arg true)
structure VI (f:GFormula) (s:List Int×List Bool):Prop where
 len:(s.2.length:Int)=f.A+f.V.length
 nd:s.1.Nodup
 mem:∀v,v∈s.1↔(0<=v/\v<f.A)/\at' s.2 v=true
theorem B9 {l:List Int} {n:Int} (h:l.Nodup) (hm:∀v∈l,0<=v/\v<n):(l.length:Int)<=max n 0:=by
 have h1:=oQ n.toNat (l.map toNat) (by
  rw[List.Nodup,pairwise_map]
  exact List.Pairwise.imp_of_mem (λ{a b} ha hb hab he=>hab (by have:=hm a ha;have:=hm b hb;omega)) h) (λx hx=>by
  obtain⟨v,hv,rfl⟩:=List.mem_map.1 hx
  have:=hm v hv
  omega)
 rw[length_map] at h1
 omega
theorem VI.few (g:FG f) {s:List Int×List Bool} (h:VI f s):s.1.length<=24:=by
 have:=B9 h.nd (n:=f.A) (λv hv=>((h.mem v).1 hv).1)
 have:=g.v24
 have:=g.v0
 omega
theorem AM (g:FG f):∀(fu:Nat) (arg:Int) (s:List Int×List Bool) (Q:List Int->List Bool->Prop),0<=arg->arg<f.A+f.V.length->arg<fu->VI f s->(VI f (qE f fu arg s)->Q (qE f fu arg s).1 (qE f fu arg s).2)->
  cI fu arg f.A f.V f.F s.1 s.2 Q
 | 0,_,_,_,h0,_,h2,_,_=>om
 | fu+1,arg,s,Q,h0,h1,h2,hv,hQ=>by
  have hlen:=hv.len
  have hfew:=hv.few g
  have hv0:=g.v0
  have hv24:=g.v24
  rw[cI]
  refine⟨⟨h0,om⟩,bg (λhs=>?_) (λhs=>⟨⟨h0,om⟩,condT (λhc=>?_) (λhc=>?_)⟩)⟩
  ·rw[qE,if_pos hs] at hQ
   exact hQ hv
  ·have hs':¬at' s.2 arg=true:=by rw[hs];simp
   rw[qE,if_neg hs',if_pos hc] at hQ
   refine⟨by rw[length_append,length_singleton];omega,hQ ⟨by rw[eu];exact hlen,?_,λv=>?_⟩⟩
   ·refine List.nodup_append.2 ⟨hv.nd,by simp,λa ha b hb he=>?_⟩
    rw[List.mem_singleton] at hb
    subst hb
    subst he
    exact hs' ((hv.mem a).1 ha).2
   ·rw[List.mem_append,List.mem_singleton,hv.mem v]
    constructor
    ·rintro(⟨h5,h6⟩ | rfl)
     ·refine⟨h5,?_⟩
      rw[jG ⟨h0,om⟩ h5.1]
      split
      ·rfl
      ·exact h6
     ·exact⟨⟨h0,hc⟩,by rw[jG ⟨h0,om⟩ h0,if_pos rfl]⟩
    ·rintro⟨h5,h6⟩
     rw[jG ⟨h0,om⟩ h5.1] at h6
     split at h6
     ·rename_i he;exact .inr he
     ·exact .inl ⟨h5,h6⟩
  ·have hs':¬at' s.2 arg=true:=by rw[hs];simp
   rw[qE,if_neg hs',if_neg hc] at hQ
   obtain⟨i,hi⟩:∃i:Nat,arg-f.A=i:=⟨(arg-f.A).toNat,om⟩
   have hil:i<f.V.length:=om
   rw[hi] at hQ ⊢
   have hargs:=sM g hil
   have h16:=(gX (g.node i hil))
   refine⟨by unfold rng;have:=g.n128;omega,⟨om,om⟩,?_⟩
   generalize hA:(at' f.V (i:Int)).M=A at hQ hargs ⊢
   have hA16:A.length<=16:=by rw[<-hA];exact h16.len
   have hv1:VI f (s.1,bu s.2 arg true):=by
    refine⟨by rw[eu];exact hlen,hv.nd,λv=>?_⟩
    rw[hv.mem v]
    constructor
    ·rintro⟨h5,h6⟩
     refine⟨h5,?_⟩
     rw[jG ⟨h0,om⟩ h5.1]
     split
     ·rfl
     ·exact h6
    ·rintro⟨h5,h6⟩
     rw[jG ⟨h0,om⟩ h5.1,if_neg om] at h6
     exact⟨h5,h6⟩
   refine ey (n:=A.length) (λj y=>y=((j:Int),((A.take j).foldl (λs x=>qE f fu x s) (s.1,bu s.2 arg true)).1,((A.take j).foldl (λs x=>qE f fu x s) (s.1,bu s.2 arg true)).2)/\VI f ((A.take j).foldl (λs x=>qE f fu x s) (s.1,bu s.2 arg true)))
    (λy=>y.1) 0 (λj y hy=>by rw[hy.1];omega) ⟨rfl,hv1⟩ ?_ ?_
   ·rintro j _ next hj ⟨rfl,hI⟩ hn
    have ha:=hargs _ (tl hj)
    have e:(A.take (j+1)).foldl (λs x=>qE f fu x s) (s.1,bu s.2 arg true)=qE f fu (at' A (j:Int)) ((A.take j).foldl (λs x=>qE f fu x s) (s.1,bu s.2 arg true)):=by
     rw[nL hj,List.foldl_append]
     rfl
    refine condT (λ_=>⟨⟨om,om⟩,AM g fu _ _ _ ha.1 om om hI (λhV=>⟨?_,zRg,hn _ ⟨?_,by rw[e];exact hV⟩⟩)⟩) (λhc=>absurd (show(j:Int)<A.length by omega) hc)
    ·have h3:=hV.len
     have h4:=hI.len
     omega
    ·rw[e]
     rfl
   ·rintro _ next ⟨rfl,hI⟩
    refine condT (λhc=>by first | omega | (dsimp only at hc;omega)) (λ_=>?_)
    have e:A.take A.length=A:=take_of_length_le (le_refl _)
    rw[e] at hI ⊢
    exact hQ hI
def nI (f:GFormula):List Int×List Bool:=qE f (f.A+(f.V.length:Int)).toNat f.F ([],bS (f.A+(f.V.length:Int)) false)
def eG (f:GFormula):List Int:=(nI f).1++(oU f.A.toNat).filter λv=>!(at' (nI f).2 v)
theorem B3 {n v:Int}:at' (bS n false) v=false:=by
 unfold at' bS
 rw[List.getD_eq_getElem?_getD,List.getElem?_replicate]
 split<;>rfl
theorem VI0 (g:FG f):VI f ([],bS (f.A+(f.V.length:Int)) false):=
 ⟨by have:=g.v0;rw[pu om],List.nodup_nil,λv=>by rw[B3];simp⟩
theorem Fm (g:FG f) {Q:List Int->List Bool->Prop} (hQ:VI f (nI f)->Q (eG f) (nI f).2):m4 f Q:=by
 have hv0:=g.v0
 have hv24:=g.v24
 have hn:=g.n128
 have ht0:=g.top0
 have ht:=g.top
 refine⟨zRg,⟨om,om,om,om⟩,(f.A+(f.V.length:Int)).toNat,AM g _ f.F ([],bS (f.A+(f.V.length:Int)) false) _ ht0 ht om (VI0 g) (λhV=>?_)⟩
 have hlen:=hV.len
 have hfew:=hV.few g
 refine⟨by have:=(VI0 g).len;dsimp only at this;omega,?_⟩
 obtain⟨n,hvn⟩:∃n:Nat,f.A=n:=⟨f.A.toNat,om⟩
 refine fR (n:=n) (λi=>((i:Int),(nI f).1++(oU i).filter λv=>!(at' (nI f).2 v))) (λy=>y.1) 0 (λi=>by first | omega | (dsimp only;omega)) (by simp[oU];rfl) ?_ ?_
 ·intro i next hi hn1
  have hf:=List.length_filter_le (λv=>!(at' (nI f).2 v)) (oU i)
  rw[zn] at hf
  have hl2:(nI f).1.length<=24:=hfew
  have hl3:((nI f).2.length:Int)=f.A+f.V.length:=hlen
  rw[Ch,List.filter_append] at hn1
  refine condT (λ_=>⟨⟨om,by show(i:Int)<((nI f).2.length:Int);omega⟩,bg (λhb=>?_) (λhb=>?_)⟩) (λhc=>absurd om hc)
  ·have hb':(!at' (nI f).2 (i:Int))=true:=hb
   rw[List.filter_cons_of_pos (by exact hb'),List.filter_nil,<-append_assoc] at hn1
   refine⟨by simp only[length_append,length_singleton];omega,zRg,?_⟩
   simpa using hn1
  ·have hb':¬(!at' (nI f).2 (i:Int))=true:=by
    intro hc
    have hc2:(!at' (nI f).2 (i:Int))=false:=hb
    rw[hc2] at hc
    cases hc
   rw[List.filter_cons_of_neg (by exact hb'),List.filter_nil,List.append_nil] at hn1
   exact⟨zRg,by simpa using hn1⟩
 ·intro next
  refine condT (λhc=>by first | omega | (dsimp only at hc;omega)) (λ_=>?_)
  have:=hQ hV
  unfold eG at this
  rw[hvn,toNat_natCast] at this
  exact this
theorem xj (h:VI f (nI f)) {v:Int}:v∈eG f↔0<=v/\v<f.A:=by
 unfold eG
 rw[List.mem_append,List.mem_filter,zr,h.mem v]
 cases hb:at' (nI f).2 v with
 | true=>simp
 | false=>simp;omega
theorem zL (h:VI f (nI f)):(eG f).Nodup:=by
 refine List.nodup_append.2 ⟨h.nd,?_,λa ha b hb he=>?_⟩
 ·refine List.Nodup.sublist List.filter_sublist ?_
  unfold oU
  rw[List.Nodup,pairwise_map]
  exact List.Pairwise.imp (λh hc=>h om) (List.nodup_range (n:=f.A.toNat))
 ·subst he
  have h1:=((h.mem a).1 ha).2
  have h2:=(List.mem_filter.1 hb).2
  rw[h1] at h2
  cases h2
theorem E8 {n:Nat}:(oU n).Nodup:=by
 unfold oU
 rw[List.Nodup,pairwise_map]
 exact List.Pairwise.imp (λh hc=>h om) (List.nodup_range (n:=n))
theorem AA (h:VI f (nI f)):(eG f).Perm (oU f.A.toNat):=
 (List.perm_ext_iff_of_nodup (zL h) E8).2 (λv=>by rw[xj h,zr];omega)
theorem FL (ht:rng f.F) {Q:List Int->Option Int->Prop} (h0:jJ f≠0->Q [] (some (jJ f))) (h1:FG f->VI f (nI f)->Q (eG f) none):m7 f Q:=by
 refine fm ht (Ib (λhc=>by rw[vK hc];exact h0 hc) (λhz=>?_))
 have g:=kV.1 hz
 exact Fm g (h1 g)
end
structure PL (l:List GRat) (p:Nat->Rat) (n:Nat):Prop where
 len:l.length=n
 rp:∀v:Nat,v<n->Rp 129 (at' l (v:Int)) (p v)
 pos:∀v,v<n->0<=p v/\p v<=1
section
variable {n:Nat} {lev:Nat->Nat} {ord:List Nat} {N:List GDNode} {p:Nat->Rat} {l:List GRat}
theorem Dk (hO:OrdL n lev ord) (hp:PL l p n) (hn:n<=24) {r:Nat}:Rp 4000 (a8 (pr p N ord r)) (pr p N ord r):=by
 have hm:∀v∈ord,v<n:=λv hv=>by
  have:v∈ord.drop 0:=by rw[List.drop_zero];exact hv
  exact(hO.mem.1 this).1
 refine .of ((H_ (λv hv=>hp.pos v (hm v hv)) λv hv=>(hp.rp v (hm v hv)).2.2).mono ?_) (by decide)
 have:=hO.len
 omega
def prL (p:Nat->Rat) (N:List GDNode) (ord:List Nat) (i:Nat):List GRat:=(range i).map λj=>a8 (pr p N ord (2+j))
theorem Ba {i:Nat}:(prL p N ord i).length=i:=by simp[prL]
theorem GE {i j:Nat} (h:j<i):at' (prL p N ord i) (j:Int)=a8 (pr p N ord (2+j)):=by simp[prL,at',List.getD_eq_getElem?_getD,h]
theorem y_ {i:Nat}:prL p N ord i++[a8 (pr p N ord (2+i))]=prL p N ord (i+1):=by simp[prL,range_succ]
theorem GH {i:Nat} {r:Int} {Q:GRat->Prop} (hi:i<=1000000000) (h0:0<=r) (h1:r<2+i) (h:Q (a8 (pr p N ord r.toNat))):nM (prL p N ord i) r Q:=by
 refine condT (λh2=>?_) (λh2=>?_)
 ·refine GI zRg λ_=>?_
  rcases (show r=0\/r=1 by omega) with rfl | rfl
  ·rw[show toNat 0=0 from rfl,EP] at h;exact h
  ·rw[show toNat 1=1 from rfl,GD] at h;exact h
 ·refine⟨zRg,⟨om,by rw[Ba];omega⟩,?_⟩
  have e:r-2=((r.toNat-2:Nat):Int):=om
  rw[e,GE om,show 2+(r.toNat-2)=r.toNat by omega]
  exact h
theorem EZ (hO:OrdL n lev ord) (h:WT n lev N) (hp:PL l p n) (hn:n<=24) {i:Nat} {x:GDNode} (hx:N[i]? = some x) (hi:i<=1000000000) {Q:GRat->Prop} (hQ:Q (a8 (pr p N ord (2+i)))):jk x l (prL p N ord i) Q:=by
 have nd:=h.nd i x hx
 have h1:=nd.lo;have h2:=nd.hi;have hv:=nd.var
 have hl:=hp.len
 have hpr:=hp.rp x.H.toNat om
 rw[show((x.H.toNat:Nat):Int)=x.H by omega] at hpr
 refine⟨⟨om,om⟩,HV zRg λr1=>z8 r1 hpr (by decide) λr2=>⟨_,GH hi h1.1 h1.2 rfl,Aj r2 (Dk hO hp hn) (by decide) λr3=>⟨_,GH hi h2.1 h2.2 rfl,Aj hpr (Dk hO hp hn) (by decide) λr4=>Em r3 r4 (by decide) λ_=>?_⟩⟩⟩
 rw[show((1:Int):Rat)=1 from rfl,<-EQ hO h hx]
 exact hQ
theorem CS {d:GDiagram} (hO:OrdL n lev ord) (h:WT n lev d.V) (hp:PL l p n) (hn:n<=24) (hl:d.V.length<=16777216) {Q:List GRat->Prop} (hQ:Q (prL p d.V ord d.V.length)):jO d l Q:=by
 refine⟨⟨om,om,om,om⟩,?_⟩
 refine fR (n:=d.V.length) (λi=>((i:Int),prL p d.V ord i)) (λy=>y.1) 0 (λi=>by simp) (by rfl) (λi next hi hn1=>?_) (λnext=>?_)
 ·have hx:=Ef (N:=d.V) hi
  refine condT (λ_=>⟨⟨om,om⟩,EZ hO h hp hn hx om ⟨?_,zRg,?_⟩⟩) (λhc=>absurd (show(i:Int)<(d.V.length:Int) by omega) hc)
  ·rw[y_,Ba];omega
  ·rw[y_];exact hn1
 ·exact condT (λhc=>absurd hc om) (λ_=>hQ)
theorem B0 {vars:Int} {Q:Option Int->Prop} (hp:PL l p n) (hn:n<=24) (hv:vars=n) (hb:∀i:Nat,i<n->fW (at' l (i:Int))=true) (hQ:Q none):kG l vars Q:=by
 have hl:=hp.len
 refine dg (λhc=>absurd hc om) (λ_=>?_)
 unfold bI bO
 refine kn (λ_=>False) om (λj next hj _ hnx=>?_) (λ_=>?_)
 ·refine⟨⟨om,om⟩,kI (hp.rp j om).1 ?_⟩
  rw[hb j om]
  exact bg (λhc=>by cases hc) (λ_=>hnx (λhf=>hf))
 ·exact bg (λhc=>by cases hc) (λ_=>hQ)
end
def exF (p:Nat->Rat) (f:GFormula):Rat:=ex p (range f.A.toNat) (λτ=>b2q (fF f τ)) (λ_=>false)
theorem D3 {f:GFormula} (g:FG f) (h:VI f (nI f)):Or14 (eG f)/\((eG f).length:Int)=f.A/\(jI (eG f)).Perm (range f.A.toNat):=by
 have hpm:=AA h
 have hlen:(eG f).length=f.A.toNat:=by rw[hpm.length_eq,zn]
 have v0:=g.v0;have v24:=g.v24
 have hnd:=zL h
 refine⟨⟨om,λi hi=>?_,λi j hi hj he=>?_⟩,om,?_⟩
 ·have:=(xj h).1 (tl hi)
  omega
 ·rw[F1 hi,F1 hj] at he
  have hpw:=List.pairwise_iff_getElem.1 hnd
  rcases Nat.lt_trichotomy i j with h1 | h1 | h1
  ·exact absurd he (hpw i j hi hj h1)
  ·exact h1
  ·exact absurd he.symm (hpw j i hj hi h1)
 ·have:=hpm.map toNat
  have e:(oU f.A.toNat).map toNat=range f.A.toNat:=by
   unfold oU
   rw[map_map]
   exact(map_congr_left (g:=id) λa _=>rfl).trans (List.map_id _)
  rw[e] at this
  exact this
theorem F6 {f:GFormula} {l:List GRat} {p:Nat->Rat} {Q:GRat->Option Int->Prop} (g:FG f) (ht:rng f.F) (hp:PL l p f.A.toNat) (hb:∀i:Nat,i<f.A.toNat->fW (at' l (i:Int))=true)
  (hB:∀o:List Int,Or14 o->(o.length:Int)=f.A->∀Q':GDiagram->Option Int->Prop,(Q ⟨false,[],[]⟩ (some 4)->Q' noD (some 4))->Q' (vT o (fF f)) none->iT f o Q') (hQ:Rp 4000 (a8 (exF p f)) (exF p f)->Q (a8 (exF p f)) none):mQ f l Q:=by
 have v0:=g.v0;have v24:=g.v24
 refine fm ht ?_
 rw[kV.2 g]
 refine bg (λhc=>by cases hc) (λ_=>B0 hp om om hb (bg (λhc=>by cases hc) (λ_=>FL ht (λhc=>absurd (kV.2 g) hc) λ_ hV=>bg (λhc=>by cases hc) (λ_=>?_))))
 obtain⟨hO,hl,hpm⟩:=D3 g hV
 refine hB _ hO hl _ (λh4=>bg (λ_=>h4) (λhc=>by cases hc)) (bg (λhc=>by cases hc) (λ_=>?_))
 have hln:(eG f).length=f.A.toNat:=om
 have hp':PL l p (eG f).length:=by rw[hln];exact hp
 obtain⟨w1,_,w3,w4⟩:=rR hO.ord WT.nil (G7 (f:=f) hO hl)
 have hlen:=wa (jI (eG f)) (fF f) []
 have h24:2^(jI (eG f)).length<=16777216:=qy (by rw[gY];exact hO.le)
 have h24':(vT (eG f) (fF f)).V.length<=16777216:=by
  show(dz (jI (eG f)) (fF f) []).1.length<=16777216
  rw[List.length_nil,Nat.zero_add] at hlen
  omega
 have hroot:pr p (vT (eG f) (fF f)).V (jI (eG f)) (vT (eG f) (fF f)).Z.toNat=exF p f:=by
  unfold pr exF
  rw[Fj hpm hO.nodup]
  refine nX _ λτ=>?_
  congr 1
  exact w4 τ
 have hRp:=Dk (N:=(vT (eG f) (fF f)).V) (r:=(vT (eG f) (fF f)).Z.toNat) hO.ord hp' hO.le
 rw[hroot] at hRp
 refine⟨_,CS hO.ord w1 hp' hO.le h24' rfl,_,GH (le_trans h24' (by decide)) (by show(0:Int)<=((dz (jI (eG f)) (fF f) []).2:Int);omega) (by show(((dz (jI (eG f)) (fF f) []).2:Nat):Int)<2+((dz (jI (eG f)) (fF f) []).1.length:Int);omega) rfl,?_⟩
 rw[hroot]
 exact hQ hRp
structure WrM (m:GMission):Prop where
 lf:m.N.length<=9223372036854775807
 lp:m.P.length<=9223372036854775807
 lr:∀i:Nat,i<m.P.length->(at' m.P (i:Int)).length<=9223372036854775807
 top:∀j:Nat,j<m.N.length->rng (at' m.N (j:Int)).F
 wd:∀i:Nat,i<m.P.length->WrL (at' m.P (i:Int))
def FrM (m:GMission):Prop:=∀i:Nat,i<m.P.length->∀j:Nat,j<(at' m.P (i:Int)).length->Fr (at' (at' m.P (i:Int)) (j:Int))/\RB 129 (bp (at' (at' m.P (i:Int)) (j:Int)))
def evt (m:GMission):Int:=(at' m.N 0).A
def phE (m:GMission) (j:Nat):Int:=if jJ (at' m.N (j:Int))≠0 then jJ (at' m.N (j:Int)) else if (at' m.N (j:Int)).A≠evt m then 11 else 0
def mS (m:GMission) (i:Nat):Int:=if (at' m.P (i:Int)).length≠m.N.length then 11 else if ∃j:Nat,j<(at' m.P (i:Int)).length/\fW (at' (at' m.P (i:Int)) (j:Int))=false then 3 else 0
def ge (m:GMission):Int:=
 if m.N.length=0 then 11 else if 6<m.N.length then 4 else if jT (phE m) m.N.length≠0 then jT (phE m) m.N.length
 else if 24<evt m*(m.N.length:Int) then 4 else if (m.P.length:Int)≠evt m then 11 else jT (mS m) m.P.length
def ol (m:GMission) (l:List Int):Int:=
 if ge m≠0 then ge m else if l.length≠m.P.length then 11 else if ∃i:Nat,i<l.length/\(at' l (i:Int)<0\/(m.N.length:Int)<at' l (i:Int)) then 3 else 0
theorem yd {m:GMission} {j:Nat} (_:j<m.N.length) (h:phE m j=0):FG (at' m.N (j:Int))/\(at' m.N (j:Int)).A=evt m:=by
 unfold phE at h
 split at h
 ·rename_i h1;exact absurd h h1
 ·rename_i h1
  have h1:jJ (at' m.N (j:Int))=0:=Classical.not_not.1 h1
  split at h
  ·cases h
  ·rename_i h2;exact⟨kV.1 h1,Classical.not_not.1 h2⟩
theorem pG {e:Int} (h:e≠0):lE e=some e:=by unfold lE;rw[if_neg h]
theorem wz {l:List GRat} {Q:Bool->Prop} (ll:l.length<=9223372036854775807) (hf:∀j:Nat,j<l.length->Fr (at' l (j:Int))) (h:Q (decide (∃j:Nat,j<l.length/\fW (at' l (j:Int))=false))) :
  bx l Q:=by
 unfold bx bT
 refine kn (λj=>fW (at' l (j:Int))=false) ll (λj next hj hI hnx=>?_) (λhall=>?_)
 ·refine⟨⟨om,om⟩,kI (hf j hj) (bg (λhb=>?_) (λhb=>?_))⟩
  ·have e:decide ((0:Int)<=(j:Int))=true:=decide_eq_true om
   show Q (decide ((0:Int)<=(j:Int)))
   rw[e]
   rw[decide_eq_true ⟨j,hj,by simpa using hb⟩] at h
   exact h
  ·exact hnx (by simpa using hb)
 ·show Q (decide ((0:Int)<=-1))
  rw[decide_eq_false (by rintro⟨j,hj,hb⟩;exact hall j hj hb)] at h
  exact h
theorem jt {m:GMission} {Q:Option Int->Prop} (w:WrM m) (hf:FrM m) (h:Q (lE (ge m))):fN m Q:=by
 unfold ge at h
 refine bV (λh0=>?_) (λh0=>?_)
 ·rw[if_pos om] at h;exact h
 rw[if_neg om] at h
 refine condT (λh6=>?_) (λh6=>?_)
 ·rw[if_pos om] at h;exact h
 rw[if_neg om] at h
 refine⟨⟨om,om⟩,?_⟩
 refine kn (λj=>phE m j≠0) w.lf (λj next hj hI hnx=>?_) (λhall=>?_)
 ·refine⟨⟨om,om⟩,fm (w.top j hj) ?_⟩
  have hz:∀i,i<j->phE m i=0:=λi hi=>Classical.not_not.1 (hI i hi)
  have hit:phE m j≠0->Q (lE (phE m j)):=λhne=>by
   rw[hH hz hne _ hj,if_pos hne] at h;exact h
  rw[ee]
  refine condT (λhe=>?_) (λhe=>dg (λ(hv:(at' m.N (j:Int)).A≠evt m)=>?_) (λ(hv:(at' m.N (j:Int)).A=evt m)=>hnx ?_))
  ·have e:phE m j=jJ (at' m.N (j:Int)):=by unfold phE;rw[if_pos he]
   rw[<-e];exact hit (by rw[e];exact he)
  ·have e:phE m j=11:=by unfold phE;rw[if_neg he,if_pos hv]
   have:=hit (by rw[e];decide)
   rw[e] at this;exact this
  ·unfold phE
   rw[if_neg he,if_neg (λhh=>hh hv)]
   simp
 have hz:∀i,i<m.N.length->phE m i=0:=λi hi=>Classical.not_not.1 (hall i hi)
 rw[if_neg (by rw[co.2 hz];simp)] at h
 obtain⟨g0,_⟩:=yd (m:=m) (j:=0) om (hz 0 om)
 have e0:evt m=(at' m.N 0).A:=rfl
 have v1:0<=evt m/\evt m<=24:=⟨g0.v0,g0.v24⟩
 have hm:0<=evt m*(m.N.length:Int)/\evt m*(m.N.length:Int)<=24*6:=⟨Int.mul_nonneg v1.1 om,Int.mul_le_mul v1.2 om om om⟩
 rw[<-e0]
 refine⟨zRg,condT (λh24=>?_) (λh24=>dg (λhp=>?_) (λhp=>?_))⟩
 ·rw[if_pos h24] at h;exact h
 ·rw[if_neg h24,if_pos hp] at h;exact h
 rw[if_neg h24,if_neg (λhh=>hh hp)] at h
 refine kn (λi=>mS m i≠0) w.lp (λi next hi hI hnx=>?_) (λhall2=>?_)
 ·have hz:∀k,k<i->mS m k=0:=λk hk=>Classical.not_not.1 (hI k hk)
  have hit:mS m i≠0->Q (lE (mS m i)):=λhne=>by
   rw[hH hz hne _ hi] at h;exact h
  refine⟨⟨om,om⟩,dg (λhl=>?_) (λhl=>?_)⟩
  ·have e:mS m i=11:=by unfold mS;rw[if_pos om]
   have:=hit (by rw[e];decide)
   rw[e] at this;exact this
  ·refine wz (w.lr i hi) (λj hj=>(hf i hi j hj).1) (bg (λhb=>?_) (λhb=>hnx ?_))
   ·have e:mS m i=3:=by unfold mS;rw[if_neg om,if_pos (of_decide_eq_true hb)]
    have:=hit (by rw[e];decide)
    rw[e] at this;exact this
   ·unfold mS
    rw[if_neg om,if_neg (of_decide_eq_false hb)]
    simp
 ·rw[co.2 λi hi=>Classical.not_not.1 (hall2 i hi)] at h
  exact h
theorem jo {m:GMission} {Q:Int->Prop} (h0:0<m.N.length) (h:Q (evt m)):d6 m Q:=⟨⟨om,om⟩,h⟩
theorem lV {m:GMission} {K:Int->Prop} (h0:0<m.N.length) (h:K (evt m)):dr (d6 m) K:=⟨_,jo h0 rfl,h⟩
theorem j2 {m:GMission} {Q:Int->Prop} (w:WrM m) (hf:FrM m) (h:Q (ge m)):j3 m Q:=by
 unfold ge at h
 refine bV (λh0=>?_) (λh0=>?_)
 ·rw[if_pos om] at h;exact dg (λ_=>h) (λhh=>by cases hh)
 rw[if_neg om] at h
 refine condT (λh6=>?_) (λh6=>?_)
 ·rw[if_pos om] at h;exact dg (λ_=>h) (λhh=>by cases hh)
 rw[if_neg om] at h
 have hp0:0<m.N.length:=om
 refine kn (λj=>phE m j≠0) w.lf (λj next hj hI hnx=>?_) (λhall=>?_)
 ·refine⟨⟨om,om⟩,wq (w.top j hj) ?_⟩
  have hz:∀i,i<j->phE m i=0:=λi hi=>Classical.not_not.1 (hI i hi)
  have hit:phE m j≠0->Q (phE m j):=λhne=>by
   rw[hH hz hne _ hj,if_pos hne] at h;exact h
  refine dg (λhe=>dg (λ_=>?_) (λhh=>absurd hh he)) (λhe=>⟨⟨om,om⟩,lV hp0 (dg (λhv=>dg (λ_=>?_) (λhh=>by cases hh)) (λhv=>hnx ?_))⟩)
  ·have e:phE m j=jJ (at' m.N (j:Int)):=by unfold phE;rw[if_pos he]
   rw[<-e];exact hit (by rw[e];exact he)
  ·have e:phE m j=11:=by unfold phE;rw[if_neg (λhh=>hh he),if_pos hv]
   have:=hit (by rw[e];decide)
   rw[e] at this;exact this
  ·unfold phE
   rw[if_neg (λhh=>hh he),if_neg (λhh=>hh hv)]
   simp
 have hz:∀i,i<m.N.length->phE m i=0:=λi hi=>Classical.not_not.1 (hall i hi)
 rw[if_neg (by rw[co.2 hz];simp)] at h
 obtain⟨g0,_⟩:=yd (m:=m) (j:=0) om (hz 0 om)
 have v1:0<=evt m/\evt m<=24:=⟨g0.v0,g0.v24⟩
 have hm:0<=evt m*(m.N.length:Int)/\evt m*(m.N.length:Int)<=24*6:=⟨Int.mul_nonneg v1.1 om,Int.mul_le_mul v1.2 om om om⟩
 refine dg (λhh=>absurd rfl hh) (λ_=>lV hp0 ⟨zRg,condT (λh24=>?_) (λh24=>lV hp0 (dg (λhp=>?_) (λhp=>?_)))⟩)
 ·rw[if_pos h24] at h;exact h
 ·rw[if_neg h24,if_pos hp] at h;exact h
 rw[if_neg h24,if_neg (λhh=>hh hp)] at h
 refine kn (λi=>mS m i≠0) w.lp (λi next hi hI hnx=>?_) (λhall2=>?_)
 ·have hz:∀k,k<i->mS m k=0:=λk hk=>Classical.not_not.1 (hI k hk)
  have hit:mS m i≠0->Q (mS m i):=λhne=>by
   rw[hH hz hne _ hi] at h;exact h
  refine⟨⟨om,om⟩,dg (λhl=>?_) (λhl=>?_)⟩
  ·have e:mS m i=11:=by unfold mS;rw[if_pos om]
   have:=hit (by rw[e];decide)
   rw[e] at this;exact this
  ·have lr:=w.lr i hi
   refine ey (n:=(at' m.P (i:Int)).length) (λj y=>y=(j:Int)/\∀k:Nat,k<j->fW (at' (at' m.P (i:Int)) (k:Int))=true) (λy=>y) 0 (λj y h=>by rw[h.1,Int.add_zero]) ⟨rfl,λk hk=>absurd hk om⟩ ?_ ?_
   ·rintro j _ next2 hj ⟨rfl,hI2⟩ hn2
    refine⟨⟨om,om⟩,condT (λhc=>⟨⟨om,om⟩,⟨om,om⟩,qP (hf i hi j hj).1 (hf i hi j hj).2 (by decide) (bg (λhb=>?_) (λhb=>?_))⟩) (λhc=>absurd (show(j:Int)<((at' m.P (i:Int)).length:Int) by omega) hc)⟩
    ·have e:mS m i=3:=by unfold mS;rw[if_neg om,if_pos ⟨j,hj,by simpa using hb⟩]
     have:=hit (by rw[e];decide)
     rw[e] at this;exact this
    ·refine⟨zRg,hn2 _ ⟨om,λk hk=>?_⟩⟩
     rcases lt_or_ge k j with h1 | h1
     ·exact hI2 k h1
     ·obtain rfl:k=j:=om
      simpa using hb
   ·rintro _ next2 ⟨rfl,hI2⟩
    refine⟨⟨om,om⟩,condT (λhc=>absurd hc om) (λ_=>hnx ?_)⟩
    unfold mS
    rw[if_neg om,if_neg (by rintro⟨k,hk,hb⟩;rw[hI2 k hk] at hb;cases hb)]
    simp
 ·rw[co.2 λi hi=>Classical.not_not.1 (hall2 i hi)] at h
  exact h
theorem GS {m:GMission} (h:ge m=0):(0<m.N.length/\m.N.length<=6)/\(∀j:Nat,j<m.N.length->FG (at' m.N (j:Int))/\(at' m.N (j:Int)).A=evt m)/\(0<=evt m/\evt m*(m.N.length:Int)<=24)/\(m.P.length:Int)=evt m/\
  ∀i:Nat,i<m.P.length->(at' m.P (i:Int)).length=m.N.length/\∀j:Nat,j<m.N.length->fW (at' (at' m.P (i:Int)) (j:Int))=true:=by
 unfold ge at h
 split at h
 ·cases h
 rename_i h0
 split at h
 ·cases h
 rename_i h6
 split at h
 ·rename_i h1;exact absurd h h1
 rename_i h1
 have hz:=co.1 (Classical.not_not.1 h1)
 split at h
 ·cases h
 rename_i h24
 split at h
 ·cases h
 rename_i hp
 have hr:=co.1 h
 refine⟨⟨om,om⟩,λj hj=>yd hj (hz j hj),⟨?_,om⟩,Classical.not_not.1 hp,λi hi=>?_⟩
 ·obtain⟨g0,e⟩:=yd (m:=m) (j:=0) om (hz 0 om)
  rw[<-e];exact g0.v0
 ·have:=hr i hi
  unfold mS at this
  split at this
  ·cases this
  ·rename_i hl
   have hl:(at' m.P (i:Int)).length=m.N.length:=Classical.not_not.1 hl
   split at this
   ·cases this
   ·rename_i he
    refine⟨hl,λj hj=>?_⟩
    cases hb:fW (at' (at' m.P (i:Int)) (j:Int)) with
    | true=>rfl
    | false=>exact absurd ⟨j,om,hb⟩ he
theorem jK {m:GMission} {l:List Int} {Q:Option Int->Prop} (w:WrM m) (hf:FrM m) (ll:l.length<=9223372036854775807) (h:Q (lE (ol m l))):fh m l Q:=by
 unfold ol at h
 refine jt w hf ?_
 rw[ee]
 refine condT (λhe=>?_) (λhe=>dg (λhl=>?_) (λhl=>?_))
 ·rw[if_pos he] at h;exact h
 ·rw[if_neg he,if_pos om] at h;exact h
 rw[if_neg he,if_neg om] at h
 refine kn (λi=>at' l (i:Int)<0\/(m.N.length:Int)<at' l (i:Int)) ll (λi next hi hI hnx=>?_) (λhall=>?_)
 ·refine⟨⟨om,om⟩,λy=>y=decide (at' l (i:Int)<0\/(m.N.length:Int)<at' l (i:Int)),?_,?_⟩
  ·exact condT (λhc=>(decide_eq_true (Or.inl hc)).symm) (λhc=>decide_eq_decide.2 ⟨Or.inr,λhh=>hh.resolve_left hc⟩)
  ·rintro _ rfl
   refine condT (λhb=>?_) (λhb=>hnx hb)
   rw[if_pos ⟨i,hi,hb⟩] at h;exact h
 ·rw[if_neg (by rintro⟨i,hi,hb⟩;exact hall i hi hb)] at h
  exact h
structure OkM (m:GMission):Prop where
 w:WrM m
 f:FrM m
 k0:0<m.N.length
 k6:m.N.length<=6
 fg:∀j:Nat,j<m.N.length->FG (at' m.N (j:Int))/\(at' m.N (j:Int)).A=evt m
 ev:(m.P.length:Int)=evt m
 n24:m.P.length*m.N.length<=24
 row:∀i:Nat,i<m.P.length->(at' m.P (i:Int)).length=m.N.length
 prob:∀i:Nat,i<m.P.length->∀j:Nat,j<m.N.length->fW (at' (at' m.P (i:Int)) (j:Int))=true
theorem okM {m:GMission} (w:WrM m) (hf:FrM m) (h:ge m=0):OkM m:=by
 obtain⟨h1,h2,h3,h4,h5⟩:=GS h
 refine⟨w,hf,h1.1,h1.2,h2,h4,?_,λi hi=>(h5 i hi).1,λi hi=>(h5 i hi).2⟩
 have e:((m.P.length*m.N.length:Nat):Int)=evt m*(m.N.length:Int):=by rw[<-h4];simp
 omega
theorem OkM.p24 {m:GMission} (o:OkM m):m.P.length<=24:=by
 have h1:=o.n24
 have h2:m.P.length*1<=m.P.length*m.N.length:=Nat.mul_le_mul_left _ o.k0
 omega
def OkH (m:GMission) (l:List Int):Prop:=l.length=m.P.length/\∀i:Nat,i<l.length->0<=at' l (i:Int)/\at' l (i:Int)<=(m.N.length:Int)
theorem okH {m:GMission} {l:List Int} (h:ol m l=0):ge m=0/\OkH m l:=by
 unfold ol at h
 split at h
 ·rename_i h1;exact absurd h h1
 rename_i h1
 split at h
 ·cases h
 rename_i h2
 split at h
 ·cases h
 rename_i h3
 refine⟨Classical.not_not.1 h1,Classical.not_not.1 h2,λi hi=>?_⟩
 have:¬(at' l (i:Int)<0\/(m.N.length:Int)<at' l (i:Int)):=λhh=>h3 ⟨i,hi,hh⟩
 omega
theorem HO {m:GMission} {l:List Int} (h:ge m=0) (hl:OkH m l):ol m l=0:=by
 unfold ol
 rw[if_neg (λhh=>hh h),if_neg (λhh=>hh hl.1),if_neg]
 rintro⟨i,hi,hh⟩
 have:=hl.2 i hi
 omega
def xi (l:List Int) (j:Int) (i:Nat):Bool:=decide (at' l (i:Int)<=j)
def oY (l:List Int) (j:Int):Nat:=jF (xi l j) l.length
theorem tF {l:List Int} {j:Int} {Q:Int->Prop} (hl:l.length<=60) (h:Q (oY l j:Int)):kJ l j Q:=by
 refine fR (n:=l.length) (λi=>((jF (xi l j) i:Int),(i:Int))) (λy=>y.2) 0 (λi=>by simp) rfl ?_ ?_
 ·intro i next hi hn
  refine condT (λhc=>⟨⟨om,om⟩,condT (λhb=>⟨Gw om,zRg,?_⟩) (λhb=>⟨zRg,?_⟩)⟩) (λhc=>absurd (show(i:Int)<(l.length:Int) by omega) hc)
  ·rw[ET om]
   rw[jF,if_pos (show xi l j i=true from decide_eq_true hb)] at hn
   exact hn
  ·rw[jF,if_neg (show ¬xi l j i=true by simp[xi,hb])] at hn
   exact hn
 ·intro next
  exact condT (λhc=>absurd hc om) (λ_=>h)
theorem DY {l:List Int} {j:Int}:oY l j<2^l.length:=pH _
def iL (g:Nat->Bool):Nat->Nat
 | 0=>0
 | n+1=>if iL g n=n then (if g n=true then n else n+1) else iL g n
theorem pE {g:Nat->Bool}:∀n,iL g n<=n
 | 0=>le_refl _
 | n+1=>by
  have:=pE (g:=g) n
  rw[iL]
  split
  ·split<;>omega
  ·omega
theorem pD {g:Nat->Bool}:∀n,(∀i,i<n->g i=false)->iL g n=n
 | 0,_=>rfl
 | n+1,h=>by rw[iL,if_pos (pD n λi hi=>h i om),if_neg (by rw[h n om];simp)]
theorem vD {g:Nat->Bool} {i:Nat} (h:∀j,j<i->g j=false) (hg:g i=true):∀n,i<n->iL g n=i
 | 0,hn=>absurd hn om
 | n+1,hn=>by
  rw[iL]
  rcases lt_or_ge i n with h1 | h1
  ·rw[vD h hg n h1,if_neg om]
  ·obtain rfl:i=n:=om
   rw[if_pos (pD i h),if_pos hg]
theorem ky {g:Nat->Bool}:∀ {n i:Nat},i<iL g n->g i=false
 | 0,i,h=>by simp[iL] at h
 | n+1,i,h=>by
  rw[iL] at h
  split at h
  ·rename_i h1
   split at h
   ·exact ky (n:=n) om
   ·rename_i h2
    rcases lt_or_ge i n with h3 | h3
    ·exact ky (n:=n) om
    ·obtain rfl:i=n:=om
     simpa using h2
  ·exact ky (n:=n) h
theorem xX {g:Nat->Bool}:∀ {n:Nat},iL g n<n->g (iL g n)=true
 | 0,h=>by simp[iL] at h
 | n+1,h=>by
  rw[iL] at h ⊢
  split
  ·rename_i h1
   rw[if_pos h1] at h
   split
   ·rename_i h2;exact h2
   ·rename_i h2;rw[if_neg h2] at h;omega
  ·rename_i h1
   have:=pE (g:=g) n
   exact xX (n:=n) om
def cy (m:GMission) (l:List Int):Nat:=iL (λj=>FV (at' m.N (j:Int)) (oY l (j:Int))) m.N.length
theorem Fq {f:GFormula} {s:Nat} (g:FG f) (hs:s<2^f.A.toNat):wK f (s:Int)=0:=by
 unfold wK
 rw[if_neg (λhh=>hh (kV.2 g)),if_neg]
 rintro(hh | hh)
 ·omega
 ·have e:(2^f.A.toNat:Int)=((2^f.A.toNat:Nat):Int):=by simp
  rw[e] at hh
  omega
theorem OkM.two {m:GMission} (o:OkM m) {l:List Int} (hl:OkH m l) {j:Nat} (hj:j<m.N.length) (k:Int):oY l k<2^(at' m.N (j:Int)).A.toNat:=by
 have h1:=DY (l:=l) (j:=k)
 have h2:(at' m.N (j:Int)).A.toNat=l.length:=by rw[(o.fg j hj).2,<-o.ev,hl.1];simp
 rw[h2];exact h1
theorem uQ {m:GMission} {l:List Int} {Q:Int->Option Int->Prop} (w:WrM m) (hf:FrM m) (ll:l.length<=9223372036854775807) (h1:ol m l≠0->Q 0 (some (ol m l))) (h2:ol m l=0->Q (cy m l:Int) none):l7 m l Q:=by
 refine jK w hf ll ?_
 rw[ee]
 refine condT (λhe=>?_) (λhe=>?_)
 ·rw[pG he];exact h1 he
 have he:=Classical.not_not.1 he
 obtain⟨hm,hh⟩:=okH he
 have o:=okM w hf hm
 have h2:=h2 he
 refine kn (λj=>FV (at' m.N (j:Int)) (oY l (j:Int))=true) w.lf (λj next hj hI hnx=>?_) (λhall=>?_)
 ·refine⟨⟨om,om⟩,_,tF (by rw[hh.1];have:=o.p24;omega) rfl,?_⟩
  refine⟨_,_,tU (w.top j hj) (λhc=>absurd (Fq (o.fg j hj).1 (o.two hh hj _)) hc) (λ_=>⟨rfl,rfl⟩),?_⟩
  refine bg (λhc=>by cases hc) (λ_=>bg (λhb=>?_) (λhb=>hnx (by rw[toNat_natCast] at hb;rw[hb];simp)))
  rw[toNat_natCast] at hb
  have e:cy m l=j:=vD (g:=λj=>FV (at' m.N (j:Int)) (oY l (j:Int))) (λk hk=>by simpa using hI k hk) hb _ hj
  rw[e] at h2;exact h2
 ·have e:cy m l=m.N.length:=pD _ λk hk=>by simpa using hall k hk
  rw[e] at h2;exact h2
theorem nW {i n K:Nat} (hi:i<n):i*K+K<=n*K:=by
 have:=mul_le_mul_right K hi
 rwa[succ_mul] at this
def pq (m:GMission) (i j:Nat):Rat:=bp (at' (at' m.P (i:Int)) (j:Int))
def fq (m:GMission) (l:List Int) (i j:Nat):Rat:=if (j:Int)<at' l (i:Int) then 1-pq m i j else pq m i j
def wI (m:GMission) (l:List Int) (q:Rat) (i:Nat):Nat->Rat
 | 0=>q
 | k+1=>wI m l q i k*fq m l i k
def cW (m:GMission) (l:List Int) (i:Nat):Nat:=min ((at' l (i:Int)).toNat+1) m.N.length
def wM (m:GMission) (l:List Int):Nat->Rat
 | 0=>1
 | i+1=>wI m l (wM m l i) i (cW m l i)
theorem OkM.pRp {m:GMission} (o:OkM m) {i j:Nat} (hi:i<m.P.length) (hj:j<m.N.length):Rp 129 (at' (at' m.P (i:Int)) (j:Int)) (pq m i j):=
 ⟨(o.f i hi j (by rw[o.row i hi];exact hj)).1,rfl,(o.f i hi j (by rw[o.row i hi];exact hj)).2⟩
theorem Ds:((1:Int):Rat)=1:=rfl
theorem EE {α:Type} {l:List α} {a:Int} (_:0<=a) (h1:a<=(l.length:Int)):(bf l 0 a).length=a.toNat:=by
 simp[bf];omega
theorem Gt {α:Type} [Inhabited α] {l:List α} {a:Int} {j:Nat} (_:0<=a) (_:a<=(l.length:Int)) (hj:j<a.toNat):at' (bf l 0 a) (j:Int)=at' l (j:Int):=by
 simp[at',bf,List.getD_eq_getElem?_getD,hj]
theorem tG {m:GMission} {l:List Int} {Q:GRat->Option Int->Prop} (w:WrM m) (hf:FrM m) (ll:l.length<=9223372036854775807) (h1:ol m l≠0->Q (⟨false,[],[]⟩:GRat) (some (ol m l)))
  (h2:ol m l=0->Rp 100000 (a8 (wM m l l.length)) (wM m l l.length)->Q (a8 (wM m l l.length)) none):kK m l Q:=by
 refine jK w hf ll ?_
 rw[ee]
 refine condT (λhe=>?_) (λhe=>?_)
 ·rw[pG he];exact h1 he
 have he:=Classical.not_not.1 he
 obtain⟨hm,hh⟩:=okH he
 have o:=okM w hf hm
 have h2:=h2 he
 have hp:=o.p24
 have hk:=o.k6
 refine GI zRg λr1=>?_
 rw[Ds] at r1 ⊢
 refine ey (n:=l.length) (λi y=>y=((i:Int),a8 (wM m l i))/\Rp (64+i*2000) (a8 (wM m l i)) (wM m l i)) (λy=>y.1) 0 (λi y h=>by rw[h.1];simp) ⟨rfl,r1⟩ ?_ ?_
 ·rintro i _ next hi ⟨rfl,hR⟩ hn
  have hin:i<m.P.length:=by rw[<-hh.1];exact hi
  obtain⟨h0,hK⟩:=hh.2 i hi
  obtain⟨a,ha⟩:=Int.eq_ofNat_of_zero_le h0
  have hc:cW m l i=min (a+1) m.N.length:=by unfold cW;rw[ha];rfl
  have hmin:(min (at' l (i:Int)+1) (m.N.length:Int))=(cW m l i:Int):=by rw[hc,ha];omega
  have hcK:cW m l i<=m.N.length:=by rw[hc];omega
  have dI:=o.row i hin
  refine condT (λ_=>⟨⟨om,om⟩,⟨om,om⟩,zRg,⟨om,by rw[hmin];omega,by rw[hmin,dI];omega⟩,?_⟩) (λhc=>absurd (show(i:Int)<(l.length:Int) by omega) hc)
  have hsl:(bf (at' m.P (i:Int)) 0 (min (at' l (i:Int)+1) (m.N.length:Int))).length=cW m l i:=by rw[hmin,EE om (by rw[dI];omega)];simp
  refine ey (n:=cW m l i) (λk y=>y=((k:Int),a8 (wI m l (wM m l i) i k))/\Rp (64+i*2000+k*200) (a8 (wI m l (wM m l i) i k)) (wI m l (wM m l i) i k)) (λy=>y.1) 0 (λi y h=>by rw[h.1];simp) ⟨rfl,hR⟩ ?_ ?_
  ·rintro k _ next2 hkc ⟨rfl,hR2⟩ hn2
   have hat:at' (bf (at' m.P (i:Int)) 0 (min (at' l (i:Int)+1) (m.N.length:Int))) (k:Int)=at' (at' m.P (i:Int)) (k:Int):=by rw[hmin];exact Gt om (by rw[dI];omega) om
   have hpr:=o.pRp hin (show k<m.N.length by omega)
   have key:∀ {z:GRat},Rp 195 z (fq m l i k)->dl (a8 (wI m l (wM m l i) i k)) z (λr1=>rng ((k:Int)+1)/\next2 ((k:Int)+1,r1)):=λ{z} hz=>
    FT hR2 hz (by simp only[cap];omega) λhr=>⟨zRg,hn2 _ ⟨rfl,hr.mono om⟩⟩
   refine condT (λ_=>⟨⟨om,by rw[hsl];omega⟩,λz=>Rp 195 z (fq m l i k),?_,λz hz=>key hz⟩) (λhc=>absurd (show(k:Int)<_ by rw[hsl];omega) hc)
   rw[hat]
   refine condT (λhb=>FM r1 hpr (by decide) λhr=>?_) (λhb=>?_)
   ·have e:fq m l i k=1-pq m i k:=by unfold fq;rw[if_pos hb]
    rw[e];exact hr.mono om
   ·have e:fq m l i k=pq m i k:=by unfold fq;rw[if_neg hb]
    rw[e];exact hpr.mono om
  ·rintro _ next2 ⟨rfl,hR2⟩
   refine condT (λhc=>absurd hc (by rw[hsl];omega)) (λ_=>⟨zRg,hn _ ⟨rfl,?_⟩⟩)
   exact hR2.mono om
 ·rintro _ next ⟨rfl,hR⟩
  exact condT (λhc=>absurd hc om) (λ_=>h2 (hR.mono (by rw[hh.1];omega)))
def soL (K i j:Nat):List Int:=(range j).map λk=>((i*K+k:Nat):Int)
def orN (K i j:Nat):GNode:=⟨3,0,soL K i (j+1)⟩
def orR (K i:Nat) (j:Nat):List GNode:=(range (j-1)).map λk=>orN K i (k+1)
def pP (K:Nat):Nat->List GNode
 | 0=>[]
 | i+1=>pP K i++orR K i K
theorem kw {K:Nat}:∀i,(pP K i).length=i*(K-1)
 | 0=>by simp[pP]
 | i+1=>by rw[pP,length_append,kw i,orR,length_map,List.length_range,succ_mul]
def byv (n K i j:Nat):Int:=if j=0 then ((i*K:Nat):Int) else ((n*K+i*(K-1)+(j-1):Nat):Int)
def byR (n K i j:Nat):List Int:=(range j).map (byv n K i)
def byF (n K i j:Nat):List (List Int):=(range n).map λa=>if a<i then byR n K a K else if a=i then byR n K i j else []
theorem cG {α:Type} [Inhabited α] {g:Nat->α} {n i:Nat} (h:i<n):at' ((range n).map g) (i:Int)=g i:=by
 simp[at',List.getD_eq_getElem?_getD,h]
theorem pd {α β:Type} [Inhabited α] [Inhabited β] {g:α->β} {l:List α} {i:Nat} (h:i<l.length):at' (l.map g) (i:Int)=g (at' l (i:Int)):=by
 simp[at',List.getD_eq_getElem?_getD,List.getElem?_eq_getElem h]
theorem qn {α:Type} {g:Nat->α} {n:Nat}:(range n).map g++[g n]=(range (n+1)).map g:=by
 rw[range_succ,map_append];rfl
theorem yi {n K i j:Nat}:(byF n K i j).length=n:=by simp[byF]
theorem Hi {n K i j:Nat} (h:i<n):at' (byF n K i j) (i:Int)=byR n K i j:=by
 unfold byF
 rw[cG h,if_neg om,if_pos rfl]
theorem BJ {n K i j:Nat} (h:i<n):bu (byF n K i j) (i:Int) (byR n K i j++[byv n K i j])=byF n K i (j+1):=by
 refine tf (by simp[bu,byF]) λa ha=>?_
 have ha:a<n:=by simpa[bu,byF] using ha
 rw[jY (by rw[yi];exact h)]
 unfold byF
 rw[cG ha,cG ha]
 by_cases h1:a=i
 ·subst h1
  rw[if_pos rfl,if_neg om,if_pos rfl]
  exact qn
 ·rw[if_neg h1,if_neg h1,if_neg h1]
theorem D9 {n K i:Nat}:byF n K i K=byF n K (i+1) 0:=by
 unfold byF
 refine map_congr_left λa _=>?_
 rcases Nat.lt_trichotomy a i with h | h | h
 ·rw[if_pos h,if_pos om]
 ·subst h
  rw[if_neg om,if_pos rfl,if_pos om]
 ·rw[if_neg om,if_neg om,if_neg om]
  split
  ·simp[byR]
  ·rfl
theorem D8 {n K:Nat}:bS ((n:Nat):Int) ([]:List Int)=byF n K 0 0:=by
 refine tf (by simp[bS,byF]) λa ha=>?_
 have ha:a<n:=by simpa[bS] using ha
 unfold byF
 rw[cG ha,if_neg om]
 have:at' (bS ((n:Nat):Int) ([]:List Int)) (a:Int)=[]:=by simp[at',bS,List.getD_eq_getElem?_getD,ha]
 rw[this]
 split
 ·simp[byR]
 ·rfl
theorem Fs {n K a:Nat} (h:a<n):at' (byF n K n 0) (a:Int)=byR n K a K:=by
 unfold byF
 rw[cG h,if_pos h]
theorem yh {n K i j:Nat}:(byR n K i j).length=j:=by simp[byR]
theorem Hh {n K i j k:Nat} (h:k<j):at' (byR n K i j) (k:Int)=byv n K i k:=cG h
def mv (n K j:Nat) (first arg:Int):Int:=if arg<(n:Int) then byv n K arg.toNat j else first+arg-(n:Int)
def phN (n K j:Nat) (first:Int) (l:List GNode):List GNode:=l.map λx=>⟨x.D,x.K,x.M.map (mv n K j first)⟩
def fA (m:GMission):Nat->List GNode
 | 0=>pP m.N.length m.P.length
 | j+1=>fA m j++phN m.P.length m.N.length j (((m.P.length*m.N.length+(fA m j).length:Nat)):Int) (at' m.N (j:Int)).V
def iz (m:GMission) (j:Nat):Int:=((m.P.length*m.N.length+(fA m j).length:Nat):Int)
def nJ (m:GMission):Nat->List Int
 | 0=>[]
 | j+1=>nJ m j++[mv m.P.length m.N.length j (iz m j) (at' m.N (j:Int)).F]
def dK (m:GMission):List GNode:=if 1<m.N.length then fA m m.N.length++[⟨3,0,nJ m m.N.length⟩] else fA m m.N.length
def tn (m:GMission):Int:=if 1<m.N.length then iz m m.N.length else at' (nJ m m.N.length) 0
def jN (m:GMission):GFormula:=⟨((m.P.length*m.N.length:Nat):Int),dK m,tn m⟩
def qH (m:GMission):Nat->List GRat
 | 0=>[]
 | i+1=>qH m i++at' m.P (i:Int)
theorem ji {m:GMission}:∀j,(nJ m j).length=j
 | 0=>rfl
 | j+1=>by rw[nJ,length_append,ji j];rfl
section
variable {m:GMission} (o:OkM m)
include o
theorem OkM.all_len:∀j,j<=m.N.length->(fA m j).length<=24+j*128
 | 0,_=>by
  rw[fA,kw]
  have h1:=o.n24
  have:m.P.length*(m.N.length-1)<=m.P.length*m.N.length:=Nat.mul_le_mul_left _ om
  omega
 | j+1,hj=>by
  have h1:=OkM.all_len j om
  have h2:=(o.fg j om).1.n128
  rw[fA,length_append,phN,length_map]
  omega
theorem OkM.unfP_len:∀i,i<=m.P.length->(qH m i).length=i*m.N.length
 | 0,_=>by simp[qH]
 | i+1,hi=>by rw[qH,length_append,OkM.unfP_len i om,o.row i om,succ_mul]
end
theorem Fp {l:List Int} (hl:l.length*8<=140737488355328):eK l λy=>y=l:=by
 intro b hb
 refine bg (λh=>?_) (λ_=>⟨by simpa using hl,by simp⟩)
 have:=hb h
 match l with
 | []=>rfl
 | _ :: _=>simp at this
theorem El {kind k2 V T:Int} {args:List Int} {N:List GNode} {Q:List GNode->Int->Prop} (hN:N.length<=1000000) (hV:0<=V/\V<=1000000) (h:Q (N++[⟨kind,k2,args⟩]) (V+(N.length:Int))):ea kind k2 args V T N Q:=by
 have e:((N++[(⟨kind,k2,args⟩:GNode)]).length:Int)=(N.length:Int)+1:=by simp
 have e1:(N++[(⟨kind,k2,args⟩:GNode)]).length=N.length+1:=by simp
 refine⟨om,zRg,zRg,?_⟩
 rw[e,show V+((N.length:Int)+1)-1=V+(N.length:Int) by omega]
 exact h
theorem Bq {m:GMission} (o:OkM m) {j:Nat} (hj:j<m.N.length) {arg:Int} {a:Nat} (ha:arg=(a:Int)) (hal:a<=1000000) {first:Int} (hf:0<=first/\first<=1000000) {Q:Int->Prop} (h:Q (mv m.P.length m.N.length j first arg)) :
  d_ arg (at' m.N (j:Int)) (j:Int) first (byF m.P.length m.N.length m.P.length 0) Q:=by
 have hv:(at' m.N (j:Int)).A=(m.P.length:Int):=by rw[(o.fg j hj).2,<-o.ev]
 have hp:=o.p24
 subst ha
 unfold mv at h
 unfold d_
 rw[hv]
 refine condT (λhc=>⟨⟨om,by rw[yi];omega⟩,?_⟩) (λhc=>?_)
 ·rw[if_pos hc,toNat_natCast] at h
  rw[Fs om]
  refine⟨⟨om,by rw[yh];omega⟩,?_⟩
  rw[Hh hj];exact h
 ·rw[if_neg hc] at h
  exact⟨zRg,zRg,h⟩
theorem ib {α:Type} [Inhabited α] {l:List α} {i:Nat} (h:i<l.length):l.take i++[at' l (i:Int)]=l.take (i+1):=by
 rw[List.take_add_one,List.getElem?_eq_getElem h]
 simp[at',List.getD_eq_getElem?_getD,List.getElem?_eq_getElem h]
theorem pt {K i j:Nat}:(soL K i j).length=j:=by simp[soL]
theorem C8 {K i j:Nat}:soL K i j++[((i*K:Nat):Int)+(j:Int)]=soL K i (j+1):=by
 have:=qn (g:=λk=>((i*K+k:Nat):Int)) (n:=j)
 unfold soL
 rw[<-this]
 simp
theorem Be {K i j:Nat}:(orR K i j).length=j-1:=by simp[orR]
theorem Dr {K i j:Nat} (h:j≠0):orR K i j++[⟨3,0,soL K i (j+1)⟩]=orR K i (j+1):=by
 obtain⟨a,rfl⟩:∃a,j=a+1:=⟨j-1,om⟩
 exact qn (g:=λk=>orN K i (k+1)) (n:=a)
theorem EW {a:GRat} (h:fW a=true):a=a8 (bp a):=by
 unfold fW at h
 rw[Bool.and_eq_true] at h
 exact sm h.1
theorem HC {n:Nat} (h:n<=1000000):rng (n:Int):=by unfold rng;omega
theorem Dm {n K j t:Nat} {first:Int} {l:List GNode} (ht:t<l.length):phN n K j first (l.take t)++[⟨(at' l (t:Int)).D,(at' l (t:Int)).K,(at' l (t:Int)).M.map (mv n K j first)⟩]=phN n K j first (l.take (t+1)):=by
 rw[<-ib ht,phN,phN,map_append];rfl
theorem OkM.arg_ok {m:GMission} (o:OkM m) {j t a:Nat} (hj:j<m.N.length) (ht:t<(at' m.N (j:Int)).V.length) (ha:a<(at' (at' m.N (j:Int)).V (t:Int)).M.length) :
  ∃b:Nat,at' (at' (at' m.N (j:Int)).V (t:Int)).M (a:Int)=(b:Int)/\b<=1000:=by
 have g:=(o.fg j hj).1
 obtain⟨h0,h1⟩:=(gX (g.node t ht)).arg a ha
 obtain⟨b,hb⟩:=Int.eq_ofNat_of_zero_le h0
 have:=g.v24
 have:=g.n128
 exact⟨b,hb,om⟩
theorem tH {m:GMission} {Q:GFormula->List GRat->Option Int->Prop} (w:WrM m) (hf:FrM m) (h1:ge m≠0->Q ⟨0,[],0⟩ [] (some (ge m))) (h4:ge m=0->128<(dK m).length->Q ⟨0,[],0⟩ [] (some 4))
  (h2:ge m=0->(dK m).length<=128->Q (jN m) (qH m m.P.length) none):kL m Q:=by
 refine jt w hf ?_
 rw[ee]
 refine condT (λhe=>?_) (λhe=>?_)
 ·rw[pG he];exact h1 he
 have he:=Classical.not_not.1 he
 have o:=okM w hf he
 have h4:=h4 he
 have h2:=h2 he
 have hp:=o.p24
 have hk6:=o.k6
 have hk0:=o.k0
 have hn:=o.n24
 have e1:(m.P.length:Int)*(m.N.length:Int)=((m.P.length*m.N.length:Nat):Int):=by simp
 rw[e1]
 refine⟨HC om,⟨om,om,om,om⟩,?_⟩
 refine fR (n:=m.P.length) (λi=>((i:Int),byF m.P.length m.N.length i 0,pP m.N.length i)) (λy=>y.1) 0 (λi=>by simp) (by rw[D8];rfl) ?_ ?_
 ·intro i next1 hi hn1
  have hik:i*m.N.length<=24:=le_trans (mul_le_mul_right _ (Nat.le_of_lt hi)) hn
  have e2:(i:Int)*(m.N.length:Int)=((i*m.N.length:Nat):Int):=by simp
  have hik1:i*(m.N.length-1)<=i*m.N.length:=Nat.mul_le_mul_left _ om
  refine condT (λ_=>?_) (λhc=>absurd (show(i:Int)<((toNat (m.P.length:Int):Nat):Int) by omega) hc)
  rw[e2]
  refine fR (n:=m.N.length) (λj=>((j:Int),byF m.P.length m.N.length i j,soL m.N.length i j,pP m.N.length i++orR m.N.length i j)) (λy=>y.1) 0 (λj=>by simp) (by simp[soL,orR]) ?_ ?_
  ·intro j next2 hj hn2
   refine condT (λ_=>⟨HC om,zRg,?_⟩) (λhc=>absurd (show(j:Int)<(m.N.length:Int) by omega) hc)
   rw[C8,pt,Hi hi]
   have hb1:((0:Int)<=(i:Int)/\(i:Int)<((byF m.P.length m.N.length i j).length:Int)):=⟨om,by rw[yi];omega⟩
   refine⟨om,bV (λhj0=>⟨hb1,⟨om,om⟩,?_⟩) (λhj0=>⟨hb1,_,Fp (by rw[pt];omega),?_⟩)⟩
   ·obtain rfl:j=0:=om
    have e3:at' (soL m.N.length i (0+1)) 0=byv m.P.length m.N.length i 0:=by simp[soL,byv,at']
    rw[e3]
    refine⟨?_,hb1,zRg,?_⟩
    ·rw[length_append,yh];simp
    ·rw[BJ hi]
     have e4:orR m.N.length i (0+1)=orR m.N.length i 0:=rfl
     rw[e4] at hn2
     exact hn2
   ·have hol:(pP m.N.length i++orR m.N.length i j).length=i*(m.N.length-1)+(j-1):=by rw[length_append,kw,Be]
    refine⟨_,_,El om om ⟨rfl,rfl⟩,?_⟩
    have e3:((m.P.length*m.N.length:Nat):Int)+((pP m.N.length i++orR m.N.length i j).length:Int)=byv m.P.length m.N.length i j:=by
     rw[hol,byv,if_neg om];omega
    rw[e3]
    refine⟨?_,hb1,zRg,?_⟩
    ·rw[length_append,yh];simp;omega
    ·rw[BJ hi,append_assoc,Dr om]
     exact hn2
  ·intro next2
   refine condT (λhc=>absurd hc om) (λ_=>⟨zRg,?_⟩)
   rw[D9]
   exact hn1
 intro next1
 refine condT (λhc=>absurd hc om) (λ_=>?_)
 have hfst:∀j,j<=m.N.length->0<=iz m j/\iz m j<=10000:=λj hj=>by
  have:=o.all_len j hj
  unfold iz
  omega
 refine fR (n:=m.N.length) (λj=>((j:Int),nJ m j,fA m j)) (λy=>y.1) 0 (λj=>by simp) rfl ?_ ?_
 ·intro j next3 hj hn3
  have hall:=o.all_len j om
  have g:=(o.fg j hj).1
  have hn128:=g.n128
  have hv24:=g.v24
  have ef:((m.P.length*m.N.length:Nat):Int)+((fA m j).length:Int)=iz m j:=by unfold iz;omega
  have hfs:=hfst j om
  refine condT (λ_=>⟨⟨om,om⟩,?_⟩) (λhc=>absurd (show(j:Int)<(m.N.length:Int) by omega) hc)
  rw[ef]
  refine⟨zRg,?_⟩
  refine fR (n:=(at' m.N (j:Int)).V.length) (λt=>((t:Int),fA m j++phN m.P.length m.N.length j (iz m j) ((at' m.N (j:Int)).V.take t))) (λy=>y.1) 0 (λt=>by simp) (by simp[phN]) ?_ ?_
  ·intro t next4 ht hn4
   have hal:=(gX (g.node t ht)).len
   refine condT (λ_=>⟨⟨om,om⟩,?_⟩) (λhc=>absurd (show(t:Int)<((at' m.N (j:Int)).V.length:Int) by omega) hc)
   refine fR (n:=(at' (at' m.N (j:Int)).V (t:Int)).M.length) (λa=>((a:Int),((at' (at' m.N (j:Int)).V (t:Int)).M.take a).map (mv m.P.length m.N.length j (iz m j)))) (λy=>y.1) 0 (λa=>by simp) zSm ?_ ?_
   ·intro a next5 ha hn5
    obtain⟨b,hb,hb1⟩:=o.arg_ok hj ht ha
    refine condT (λ_=>⟨⟨om,om⟩,iK ?_⟩) (λhc=>absurd (show(a:Int)<((at' (at' m.N (j:Int)).V (t:Int)).M.length:Int) by omega) hc)
    refine Bq o hj hb om om ⟨?_,zRg,?_⟩
    ·rw[length_append,length_map,length_take];simp;omega
    ·rw[<-ib ha,map_append] at hn5
     exact hn5
   ·intro next5
    refine condT (λhc=>absurd hc om) (λ_=>?_)
    rw[take_length]
    refine El ?_ om ⟨zRg,?_⟩
    ·rw[length_append,phN,length_map,length_take];omega
    ·rw[append_assoc,Dm ht]
     exact hn4
  ·intro next4
   refine condT (λhc=>absurd hc om) (λ_=>?_)
   rw[take_length]
   obtain⟨b,hb⟩:=Int.eq_ofNat_of_zero_le g.top0
   have htop:=g.top
   refine Bq o hj hb om om ⟨?_,zRg,hn3⟩
   rw[length_append,ji];simp;omega
 intro next3
 have hall:=o.all_len m.N.length om
 refine condT (λhc=>absurd hc om) (λ_=>⟨⟨om,by rw[ji];omega⟩,λy=>y=(tn m,dK m),?_,?_⟩)
 ·refine condT (λhc=>El om om ?_) (λhc=>?_)
  ·have ef:((m.P.length*m.N.length:Nat):Int)+((fA m m.N.length).length:Int)=iz m m.N.length:=by unfold iz;omega
   rw[ef,tn,dK,if_pos om,if_pos om]
  ·rw[tn,dK,if_neg om,if_neg om]
 rintro _ rfl
 refine condT (λhc=>h4 om) (λhc=>?_)
 have h2:=h2 om
 refine fR (n:=m.P.length) (λi=>((i:Int),qH m i)) (λy=>y.1) 0 (λi=>by simp) rfl ?_ ?_
 ·intro i next6 hi hn6
  have dI:=o.row i hi
  refine condT (λ_=>⟨⟨om,om⟩,?_⟩) (λhc=>absurd (show(i:Int)<(m.P.length:Int) by omega) hc)
  refine fR (n:=(at' m.P (i:Int)).length) (λj=>((j:Int),qH m i++(at' m.P (i:Int)).take j)) (λy=>y.1) 0 (λi=>by simp) zSm ?_ ?_
  ·intro j next7 hj hn7
   have hpr:=o.pRp hi (show j<m.N.length by omega)
   have epq:a8 (pq m i j+0)=at' (at' m.P (i:Int)) (j:Int):=by
    rw[Rat.add_zero];exact(EW (o.prob i hi j om)).symm
   refine condT (λ_=>⟨⟨om,om⟩,F5 hpr (.zero (k:=1) (by decide) (by decide)) (by decide) λ_=>⟨?_,zRg,?_⟩⟩) (λhc=>absurd (show(j:Int)<((at' m.P (i:Int)).length:Int) by omega) hc)
   ·have hik:i*m.N.length<=24:=le_trans (mul_le_mul_right _ (Nat.le_of_lt hi)) hn
    rw[length_append,length_append,o.unfP_len i om,length_take];simp;omega
   ·rw[epq,append_assoc,ib hj]
    exact hn7
  ·intro next7
   refine condT (λhc=>absurd hc om) (λ_=>⟨zRg,?_⟩)
   rw[take_length]
   exact hn6
 ·intro next6
  exact condT (λhc=>absurd hc om) (λ_=>h2)
def exM (r:GRat):GMission:=⟨[⟨2,[⟨2,0,[0,1]⟩],2⟩,⟨2,[⟨3,0,[0,1]⟩],2⟩],[[r,r],[r,r]]⟩
def kx:Rat:=((1:Int):Rat) / ((2:Int):Rat)
theorem DJ {m:GMission} (h0:0<m.N.length) (h6:m.N.length<=6) (hf:∀j:Nat,j<m.N.length->jJ (at' m.N (j:Int))=0/\(at' m.N (j:Int)).A=evt m) (h24:evt m*(m.N.length:Int)<=24) (hp:(m.P.length:Int)=evt m)
  (hr:∀i:Nat,i<m.P.length->(at' m.P (i:Int)).length=m.N.length/\∀j:Nat,j<(at' m.P (i:Int)).length->fW (at' (at' m.P (i:Int)) (j:Int))=true):ge m=0:=by
 unfold ge
 have hz:jT (phE m) m.N.length=0:=co.2 λj hj=>by
  unfold phE
  rw[if_neg (λhh=>hh (hf j hj).1),if_neg (λhh=>hh (hf j hj).2)]
 rw[if_neg om,if_neg om,if_neg (λhh=>hh hz),if_neg om,if_neg (λhh=>hh hp)]
 refine co.2 λi hi=>?_
 unfold mS
 rw[if_neg (λhh=>hh (hr i hi).1),if_neg]
 rintro⟨j,hj,hb⟩
 rw[(hr i hi).2 j hj] at hb
 cases hb
theorem ry:RB 129 kx:=(pg (pf (n:=1) (k:=6) om (by decide)) (pf (n:=2) (k:=6) om (by decide))).mono om
theorem jU {P:Nat->Prop} (h0:P 0) (h1:P 1):∀i:Nat,i<2->P i:=λi hi=>by
 match i with
 | 0=>exact h0
 | 1=>exact h1
 | i+2=>omega
section
variable {r:GRat} (hr:Fr r) (hv:bp r=kx) (hb:fW r=true)
include hr hv
theorem Ia:FrM (exM r):=jU (jU ⟨hr,by show RB 129 (bp r);rw[hv];exact ry⟩ ⟨hr,by show RB 129 (bp r);rw[hv];exact ry⟩) (jU ⟨hr,by show RB 129 (bp r);rw[hv];exact ry⟩ ⟨hr,by show RB 129 (bp r);rw[hv];exact ry⟩)
omit hv in
theorem H9:WrM (exM r):=⟨by show 2<=9223372036854775807;decide,by show 2<=9223372036854775807;decide,jU (by show 2<=9223372036854775807;decide) (by show 2<=9223372036854775807;decide),jU (by show rng 2;unfold rng;omega) (by show rng 2;unfold rng;omega),jU (jU ⟨hr.1,hr.2.1⟩ ⟨hr.1,hr.2.1⟩) (jU ⟨hr.1,hr.2.1⟩ ⟨hr.1,hr.2.1⟩)⟩
omit hr hv in
include hb in
theorem G8:ge (exM r)=0:=
 DJ (by show 0<2;decide) (by show 2<=6;decide) (jU ⟨by show jJ ⟨2,[⟨2,0,[0,1]⟩],2⟩=0;decide +kernel,rfl⟩ ⟨by show jJ ⟨2,[⟨3,0,[0,1]⟩],2⟩=0;decide +kernel,rfl⟩) (by show(2:Int)*2<=24;decide) rfl (jU ⟨rfl,jU hb hb⟩ ⟨rfl,jU hb hb⟩)
omit hr in
end
def rc (b:Int) (x:GNode):Int:=
 if x.D<0\/5<x.D then 7
 else if mn x.D x.M.length=false then 11
 else if ∃j<x.M.length,at' x.M ((j:Nat):Int)<0\/b<=at' x.M ((j:Nat):Int) then 10
 else if x.D=0 then (if x.K≠0/\x.K≠1 then 3 else 0)
 else if x.D=4 then (if x.K<1\/(x.M.length:Int)<x.K then 3 else 0)
 else if x.K≠0 then 2 else 0
theorem E3 {f:GFormula} {i:Nat}:ju f i=rc (f.A+i) (at' f.V (i:Int)):=rfl
theorem su {b:Int} {x:GNode} (h:rc b x=0) (j:Nat) (hj:j<x.M.length):0<=at' x.M (j:Int)/\at' x.M (j:Int)<b:=by
 unfold rc at h
 split at h
 ·cases h
 split at h
 ·cases h
 split at h
 ·cases h
 rename_i _ _ h3
 rw[not_exists] at h3
 have:=h3 j
 simp only[hj,true_and,not_or] at this
 omega
theorem B_ {b b':Int} {x y:GNode} (h:rc b x=0) (hk:y.D=x.D) (hK:y.K=x.K) (hl:y.M.length=x.M.length) (ha:∀j:Nat,j<y.M.length->0<=at' y.M (j:Int)/\at' y.M (j:Int)<b'):rc b' y=0:=by
 unfold rc at h ⊢
 rw[hk,hK,hl]
 split at h
 ·cases h
 rename_i h1
 rw[if_neg h1]
 split at h
 ·cases h
 rename_i h2
 rw[if_neg h2]
 split at h
 ·cases h
 rw[if_neg]
 ·exact h
 ·rintro⟨j,hj,hb⟩
  have:=ha j om
  omega
theorem zk {b:Int} {l:List Int} (h1:1<=l.length) (h16:l.length<=16) (ha:∀j:Nat,j<l.length->0<=at' l (j:Int)/\at' l (j:Int)<b):rc b ⟨3,0,l⟩=0:=by
 unfold rc
 dsimp only
 rw[if_neg om,if_neg,if_neg,if_neg om,if_neg om,if_neg zSm]
 ·rintro⟨j,hj,hb⟩
  have:=ha j hj
  omega
 ·unfold mn
  rw[if_neg om,if_neg om]
  simp;omega
theorem rO {m:GMission} {j:Nat}:∀J,j<=J->∃r,fA m J=fA m j++r
 | 0,h=>by
  obtain rfl:j=0:=om
  exact⟨[],by simp⟩
 | J+1,h=>by
  rcases lt_or_ge J j with h1 | h1
  ·obtain rfl:j=J+1:=om
   exact⟨[],by simp⟩
  ·obtain⟨r,hr⟩:=rO (m:=m) J h1
   exact⟨r++phN m.P.length m.N.length J (((m.P.length*m.N.length+(fA m J).length:Nat)):Int) (at' m.N (J:Int)).V,by rw[fA,hr,append_assoc]⟩
theorem yE {m:GMission} {j:Nat} (hj:j<=m.N.length):∃r,dK m=fA m j++r:=by
 obtain⟨r,hr⟩:=rO (m:=m) m.N.length hj
 unfold dK
 split
 ·exact⟨r++[⟨3,0,nJ m m.N.length⟩],by rw[hr,append_assoc]⟩
 ·exact⟨r,hr⟩
theorem lH {α:Type} [Inhabited α] {l r:List α} {t:Nat}:at' (l++r) ((l.length+t:Nat):Int)=at' r (t:Int):=by
 unfold at'
 rw[toNat_natCast,toNat_natCast,List.getD_eq_getElem?_getD,List.getD_eq_getElem?_getD,List.getElem?_append_right om,show l.length+t-l.length=t by omega]
def CG (b:Int) (l:List GNode):Prop:=∀t:Nat,t<l.length->rc (b+t) (at' l (t:Int))=0
theorem we {b:Int} {l r:List GNode} (h1:CG b l) (h2:CG (b+l.length) r):CG b (l++r):=λt ht=>by
 rcases lt_or_ge t l.length with h | h
 ·rw[eV om om];exact h1 t h
 ·obtain⟨u,rfl⟩:∃u,t=l.length+u:=⟨t-l.length,om⟩
  rw[lH]
  have:=h2 u (by rw[length_append] at ht;omega)
  rw[show b+((l.length+u:Nat):Int)=b+(l.length:Int)+(u:Int) by omega]
  exact this
theorem Do {m:GMission} (o:OkM m):∀i,i<=m.P.length->∀(b:Int),((m.P.length*m.N.length:Nat):Int)<=b->CG b (pP m.N.length i)
 | 0,_,b,_=>λt ht=>by simp[pP] at ht
 | i+1,hi,b,hb=>by
  have hk6:=o.k6
  rw[pP]
  refine we (Do o i om b hb) λt ht=>?_
  rw[Be] at ht
  unfold orR
  rw[cG ht]
  refine zk (by rw[pt];omega) (by rw[pt];omega) λj hj=>?_
  rw[pt] at hj
  unfold soL
  rw[cG hj]
  have:=nW (i:=i) (n:=m.P.length) (K:=m.N.length) om
  omega
theorem Hg {m:GMission} {i j:Nat} (hi:i<m.P.length) (hj:j<m.N.length):0<=byv m.P.length m.N.length i j/\byv m.P.length m.N.length i j<((m.P.length*m.N.length+m.P.length*(m.N.length-1):Nat):Int):=by
 have h1:=nW (i:=i) (n:=m.P.length) (K:=m.N.length) hi
 have h2:=nW (i:=i) (n:=m.P.length) (K:=m.N.length-1) hi
 unfold byv
 split
 ·omega
 ·omega
theorem FC {m:GMission} (j:Nat):m.P.length*(m.N.length-1)<=(fA m j).length:=by
 obtain⟨r,hr⟩:=rO (m:=m) (j:=0) j om
 rw[hr,length_append,fA,kw];omega
theorem FSx {m:GMission} (o:OkM m) {j:Nat} (hj:j<m.N.length) {a:Int} {u:Nat} (h0:0<=a) (h1:a<evt m+u):0<=mv m.P.length m.N.length j (iz m j) a/\mv m.P.length m.N.length j (iz m j) a<iz m j+u:=by
 have hg:=FC (m:=m) j
 have he:=o.ev
 unfold mv
 split
 ·have:=Hg (m:=m) (i:=a.toNat) (j:=j) om hj
  unfold iz
  omega
 ·unfold iz
  omega
theorem Eh {m:GMission} (o:OkM m):∀j,j<=m.N.length->CG ((m.P.length*m.N.length:Nat):Int) (fA m j)
 | 0,_=>Do o _ (le_refl _) _ (Int.le_refl _)
 | j+1,hj=>by
  rw[fA]
  refine we (Eh o j om) λt ht=>?_
  unfold phN at ht ⊢
  rw[length_map] at ht
  rw[pd ht]
  have g:=(o.fg j om).1
  have hn:=g.node t ht
  rw[E3,(o.fg j om).2] at hn
  refine B_ hn rfl rfl zSm λa ha=>?_
  simp only[length_map] at ha
  dsimp only
  rw[pd ha]
  have h1:=su hn a ha
  have:=FSx o (j:=j) om h1.1 h1.2
  unfold iz at this
  omega
theorem AP {m:GMission} {J j:Nat}:j<J->at' (nJ m J) (j:Int)=mv m.P.length m.N.length j (iz m j) (at' m.N (j:Int)).F:=by
 induction J with
 | zero=>intro h;omega
 | succ J ih=>
  intro h
  rw[nJ]
  rcases lt_or_ge j J with h1 | h1
  ·rw[eV om (by rw[ji];omega)];exact ih h1
  ·obtain rfl:j=J:=om
   have:=iY (l:=nJ m j) (x:=mv m.P.length m.N.length j (iz m j) (at' m.N (j:Int)).F)
   rw[ji] at this
   exact this
theorem xA {m:GMission} (o:OkM m) {j:Nat} (hj:j<m.N.length):0<=at' (nJ m m.N.length) (j:Int)/\at' (nJ m m.N.length) (j:Int)<iz m m.N.length:=by
 rw[AP hj]
 have g:=(o.fg j hj).1
 have ht:=g.top
 rw[(o.fg j hj).2] at ht
 have h1:=FSx o hj g.top0 ht
 obtain⟨r,hr⟩:=rO (m:=m) (j:=j+1) m.N.length om
 have hl:(fA m m.N.length).length=(fA m j).length+(at' m.N (j:Int)).V.length+r.length:=by
  rw[hr,length_append,fA,length_append,phN,length_map]
 unfold iz at h1 ⊢
 omega
theorem z7 {m:GMission} (o:OkM m) (h128:(dK m).length<=128):FG (jN m):=by
 have hk6:=o.k6
 have hk0:=o.k0
 have hB:=Eh o m.N.length (le_refl _)
 refine⟨by show(0:Int)<=((m.P.length*m.N.length:Nat):Int);omega,by show((m.P.length*m.N.length:Nat):Int)<=24;have:=o.n24;omega,h128,λi hi=>?_,?_,?_⟩
 ·have:CG ((m.P.length*m.N.length:Nat):Int) (dK m):=by
   unfold dK
   split
   ·refine we hB λt ht=>?_
    obtain rfl:t=0:=by simpa using ht
    refine zk (by rw[ji];omega) (by rw[ji];omega) λj hj=>?_
    rw[ji] at hj
    have:=xA o hj
    unfold iz at this
    omega
   ·exact hB
  exact this i hi
 ·show 0<=tn m
  unfold tn
  split
  ·unfold iz;omega
  ·exact(xA o hk0).1
 ·show tn m<((m.P.length*m.N.length:Nat):Int)+((dK m).length:Int)
  unfold tn dK
  split
  ·unfold iz;rw[length_append];simp;omega
  ·have:=(xA o hk0).2
   unfold iz at this
   have e:at' (nJ m m.N.length) 0=at' (nJ m m.N.length) ((0:Nat):Int):=rfl
   rw[e];omega
theorem yA {f:GFormula} {s i:Nat} (g:FG f) (hi:i<f.V.length):at' (cO f s f.V.length) (f.A+i)=iw (at' f.V (i:Int)) (cO f s f.V.length):=by
 have v0:=g.v0
 rw[pm v0 hi]
 unfold iw
 congr 1
 refine xk _ λk hk=>?_
 have:=su (g.node i hi) k hk
 exact(ke (m:=i) this.1 om f.V.length om).symm
theorem yf {x:GNode} {v:List Bool}:∀n,0<cnt x v n↔∃j:Nat,j<n/\at' v (at' x.M (j:Int))=true
 | 0=>by simp[cnt]
 | n+1=>by
  rw[cnt]
  constructor
  ·intro h
   by_cases hv:at' v (at' x.M (n:Int))=true
   ·exact⟨n,om,hv⟩
   ·rw[if_neg hv] at h
    obtain⟨j,hj,hh⟩:=(yf n).1 om
    exact⟨j,om,hh⟩
  ·rintro⟨j,hj,hh⟩
   rcases lt_or_ge j n with h1 | h1
   ·have:=(yf n).2 ⟨j,h1,hh⟩
    omega
   ·obtain rfl:j=n:=om
    rw[if_pos hh];omega
theorem Dp {l:List Int} {v:List Bool}:iw ⟨3,0,l⟩ v=decide (∃j:Nat,j<l.length/\at' v (at' l (j:Int))=true):=by
 have h:=yf (x:=⟨3,0,l⟩) (v:=v) l.length
 unfold iw oh
 dsimp only at h ⊢
 rw[if_neg om,if_neg om,if_neg om,if_pos rfl]
 exact decide_eq_decide.2 (by rw[<-h];omega)
theorem Bd {K:Nat} {i j:Nat} (hj:j<K-1):∀n,i<n->at' (pP K n) ((i*(K-1)+j:Nat):Int)=orN K i (j+1)
 | 0,h=>om
 | n+1,h=>by
  rw[pP]
  rcases lt_or_ge i n with h1 | h1
  ·have:=nW (i:=i) (n:=n) (K:=K-1) h1
   rw[eV om (by rw[kw];omega)]
   exact Bd hj n h1
  ·obtain rfl:i=n:=om
   have:=lH (l:=pP K i) (r:=orR K i K) (t:=j)
   rw[kw] at this
   rw[this]
   unfold orR
   rw[cG hj]
section
variable {m:GMission} (o:OkM m) (h128:(dK m).length<=128) (s:Nat)
theorem xy {a:Nat} (ha:a<m.P.length*m.N.length):at' (cO (jN m) s (dK m).length) (a:Int)=inS s a:=by
 have:=jf (f:=jN m) (s:=s) (a:=(a:Int)) om (by show(a:Int)<((m.P.length*m.N.length:Nat):Int);omega) (dK m).length
 rw[toNat_natCast] at this
 exact this
include o h128 in
theorem ue {t:Nat} (ht:t<(dK m).length):at' (cO (jN m) s (dK m).length) (((m.P.length*m.N.length+t:Nat)):Int)=iw (at' (dK m) (t:Int)) (cO (jN m) s (dK m).length):=by
 have:=yA (f:=jN m) (s:=s) (i:=t) (z7 o h128) ht
 have e:(((m.P.length*m.N.length+t:Nat)):Int)=(jN m).A+(t:Int):=by
  show _=((m.P.length*m.N.length:Nat):Int)+(t:Int)
  omega
 rw[e]
 exact this
include o h128 in
theorem z5 {i j:Nat} (hi:i<m.P.length) (hj:j<m.N.length):at' (cO (jN m) s (dK m).length) (byv m.P.length m.N.length i j)=decide (∃k,k<=j/\inS s (i*m.N.length+k)=true):=by
 have hx:=nW (i:=i) (n:=m.P.length) (K:=m.N.length) hi
 unfold byv
 split
 ·rename_i h0
  subst h0
  rw[xy s om]
  rw[Bool.eq_iff_iff,decide_eq_true_eq]
  constructor
  ·intro h;exact⟨0,le_refl _,h⟩
  ·rintro⟨k,hk,h⟩
   obtain rfl:k=0:=om
   exact h
 ·rename_i h0
  obtain⟨r,hr⟩:=yE (m:=m) (j:=0) om
  have hy:=nW (i:=i) (n:=m.P.length) (K:=m.N.length-1) hi
  have hol:(pP m.N.length m.P.length).length=m.P.length*(m.N.length-1):=kw _
  have hlt:i*(m.N.length-1)+(j-1)<(dK m).length:=by
   rw[hr,length_append,fA,hol];omega
  have e:m.P.length*m.N.length+i*(m.N.length-1)+(j-1)=m.P.length*m.N.length+(i*(m.N.length-1)+(j-1)):=om
  rw[e,ue o h128 s hlt]
  have hat:at' (dK m) ((i*(m.N.length-1)+(j-1):Nat):Int)=orN m.N.length i j:=by
   rw[hr,fA,eV om (by rw[hol];omega),Bd om _ hi,show j-1+1=j by omega]
  rw[hat,orN,Dp,pt]
  refine decide_eq_decide.2 ⟨?_,?_⟩
  ·rintro⟨k,hk,h⟩
   unfold soL at h
   rw[cG hk,xy s om] at h
   exact⟨k,om,h⟩
  ·rintro⟨k,hk,h⟩
   refine⟨k,om,?_⟩
   unfold soL
   rw[cG om,xy s om]
   exact h
end
def Fits (m:GMission) (s:Nat) (l:List Int):Prop:=l.length=m.P.length/\∀i:Nat,i<m.P.length->∀j:Nat,j<m.N.length->(at' l (i:Int)<=(j:Int)↔∃k,k<=j/\inS s (i*m.N.length+k)=true)
theorem zj {x y:GNode} {v v':List Bool} (hk:y.D=x.D) (hK:y.K=x.K) (hl:y.M.length=x.M.length) (h:∀j:Nat,j<x.M.length->at' v' (at' y.M (j:Int))=at' v (at' x.M (j:Int))):iw y v'=iw x v:=by
 have hc:∀n,n<=x.M.length->cnt y v' n=cnt x v n:=λn=>by
  induction n with
  | zero=>intro _;rfl
  | succ n ih=>intro hn;rw[cnt,cnt,ih om,h n om]
 unfold iw oh
 rw[hk,hK,hl,hc _ (le_refl _)]
theorem r_ {m:GMission} (o:OkM m) (h128:(dK m).length<=128) {s:Nat} {l:List Int} (hf:Fits m s l) {j:Nat} (hj:j<m.N.length):∀a:Nat,(a:Int)<evt m+(at' m.N (j:Int)).V.length->
  at' (cO (jN m) s (dK m).length) (mv m.P.length m.N.length j (iz m j) (a:Int))=at' (cO (at' m.N (j:Int)) (oY l (j:Int)) (at' m.N (j:Int)).V.length) (a:Int):=by
 intro a
 have he:=o.ev
 have g:=(o.fg j hj).1
 have hv:=(o.fg j hj).2
 induction a using Nat.strongRecOn with
 | _ a ih=>
  intro ha
  unfold mv
  split
  ·rename_i h1
   rw[toNat_natCast,z5 o h128 s om hj,jf om (by rw[hv];omega),toNat_natCast,Bp]
   unfold oY
   rw[vV,decide_eq_true (show a<l.length by rw[hf.1];omega),Bool.true_and,xi]
   exact decide_eq_decide.2 (hf.2 a om j hj).symm
  ·rename_i h1
   obtain⟨t,rfl⟩:∃t,a=m.P.length+t:=⟨a-m.P.length,om⟩
   have ht:t<(at' m.N (j:Int)).V.length:=om
   obtain⟨r,hr⟩:=yE (m:=m) (j:=j+1) om
   have hlen:(fA m j).length+t<(dK m).length:=by
    rw[hr,length_append,fA,length_append,phN,length_map];omega
   have e:iz m j+((m.P.length+t:Nat):Int)-(m.P.length:Int)=((m.P.length*m.N.length+((fA m j).length+t):Nat):Int):=by unfold iz;omega
   rw[e,ue o h128 s hlen]
   have e2:((m.P.length+t:Nat):Int)=(at' m.N (j:Int)).A+(t:Int):=by rw[hv];omega
   rw[e2,yA g ht]
   have hat:at' (dK m) (((fA m j).length+t:Nat):Int)=⟨(at' (at' m.N (j:Int)).V (t:Int)).D,(at' (at' m.N (j:Int)).V (t:Int)).K,(at' (at' m.N (j:Int)).V (t:Int)).M.map (mv m.P.length m.N.length j (iz m j))⟩:=by
    rw[hr,fA,append_assoc,lH,eV om (by rw[phN,length_map];omega),phN,pd ht]
    rfl
   rw[hat]
   refine zj rfl rfl zSm λk hk=>?_
   dsimp only
   rw[pd hk]
   have harg:=su (g.node t ht) k hk
   obtain⟨b,hb⟩:=Int.eq_ofNat_of_zero_le harg.1
   rw[hb] at harg ⊢
   rw[hv] at harg
   exact ih b om om
theorem Bv {g:Nat->Bool} {n:Nat}:iL g n<n↔∃j,j<n/\g j=true:=by
 constructor
 ·intro h;exact⟨_,h,xX h⟩
 ·rintro⟨j,hj,h⟩
  rcases lt_or_ge (iL g n) n with h1 | h1
  ·exact h1
  ·have:=ky (g:=g) (n:=n) (i:=j) om
   rw[h] at this;cases this
theorem xx {m:GMission} (o:OkM m) (h128:(dK m).length<=128) {s:Nat} {l:List Int} (hf:Fits m s l) {j:Nat} (hj:j<m.N.length):at' (cO (jN m) s (dK m).length) (at' (nJ m m.N.length) (j:Int))=FV (at' m.N (j:Int)) (oY l (j:Int)):=by
 rw[AP hj]
 have g:=(o.fg j hj).1
 have ht:=g.top
 rw[(o.fg j hj).2] at ht
 obtain⟨a,ha⟩:=Int.eq_ofNat_of_zero_le g.top0
 unfold FV
 rw[ha] at ht ⊢
 exact r_ o h128 hf hj a ht
theorem z6 {m:GMission} (o:OkM m) (h128:(dK m).length<=128) {s:Nat} {l:List Int} (hf:Fits m s l):FV (jN m) s=decide (cy m l<m.N.length):=by
 have hk0:=o.k0
 show at' (cO (jN m) s (dK m).length) (tn m)=_
 unfold cy
 unfold tn
 split
 ·rename_i h1
  have e:dK m=fA m m.N.length++[⟨3,0,nJ m m.N.length⟩]:=by unfold dK;rw[if_pos h1]
  have hlen:(fA m m.N.length).length+0<(dK m).length:=by rw[e,length_append];simp
  unfold iz
  have:=ue o h128 s hlen
  rw[add_zero] at this
  rw[this]
  have hat:at' (dK m) ((fA m m.N.length).length:Int)=⟨3,0,nJ m m.N.length⟩:=by rw[e];exact iY
  rw[hat,Dp,ji]
  refine decide_eq_decide.2 ?_
  rw[Bv]
  constructor
  ·rintro⟨j,hj,h⟩
   rw[xx o h128 hf hj] at h
   exact⟨j,hj,h⟩
  ·rintro⟨j,hj,h⟩
   refine⟨j,hj,?_⟩
   rw[xx o h128 hf hj]
   exact h
 ·rename_i h1
  have:=xx o h128 hf hk0
  have e:at' (nJ m m.N.length) 0=at' (nJ m m.N.length) ((0:Nat):Int):=rfl
  rw[e,this,Bool.eq_iff_iff,decide_eq_true_eq,Bv]
  constructor
  ·intro h;exact⟨0,hk0,h⟩
  ·rintro⟨j,hj,h⟩
   obtain rfl:j=0:=om
   exact h
def hsL (K:Nat):Nat->List (List Int)
 | 0=>[[]]
 | i+1=>(hsL K i).flatMap λh=>(range (K+1)).map λj=>h++[((j:Nat):Int)]
theorem Bs {K:Nat}:∀i,(hsL K i).length=(K+1)^i
 | 0=>rfl
 | i+1=>by
  rw[hsL,List.length_flatMap]
  simp only[length_map,List.length_range,List.map_const',List.sum_replicate_nat]
  rw[Bs i,pow_succ]
theorem Br {K:Nat}:∀i,∀h∈hsL K i,h.length=i/\∀a:Nat,a<i->0<=at' h (a:Int)/\at' h (a:Int)<=(K:Int)
 | 0,h,hm=>by
  rw[hsL,List.mem_singleton] at hm
  subst hm
  exact⟨rfl,λa ha=>absurd ha om⟩
 | i+1,h,hm=>by
  rw[hsL,List.mem_flatMap] at hm
  obtain⟨h0,hm0,hm1⟩:=hm
  obtain⟨j,hj,rfl⟩:=List.mem_map.1 hm1
  have hj:=List.mem_range.1 hj
  obtain⟨hl,ha⟩:=Br i h0 hm0
  refine⟨by simp[hl],λa hai=>?_⟩
  rcases lt_or_ge a i with h1 | h1
  ·rw[eV om om];exact ha a h1
  ·obtain rfl:a=i:=om
   rw[<-hl,iY];omega
def gq (m:GMission) (i:Nat):Nat->Rat
 | 0=>1
 | k+1=>gq m i k*(1-pq m i k)
def tq (m:GMission) (i j:Nat):Rat:=if j<m.N.length then gq m i j*pq m i j else gq m i j
theorem CK {m:GMission} {l:List Int} {q:Rat} {i a:Nat} (ha:at' l (i:Int)=(a:Int)):∀k,k<=a->wI m l q i k=q*gq m i k
 | 0,_=>by rw[wI,gq];grind
 | k+1,hk=>by
  rw[wI,gq,CK ha k om,fq,if_pos om]
  grind
theorem Ij {m:GMission} {l:List Int} {q:Rat} {i a:Nat} (ha:at' l (i:Int)=(a:Int)) (hK:a<=m.N.length):wI m l q i (cW m l i)=q*tq m i a:=by
 unfold cW tq
 rw[ha,toNat_natCast]
 split
 ·rename_i h
  rw[show min (a+1) m.N.length=a+1 by omega,wI,CK ha a (le_refl _),fq,if_neg om]
  grind
 ·rw[show min (a+1) m.N.length=a by omega,CK ha a (le_refl _)]
theorem yw {m:GMission} {l l':List Int}:∀i,(∀a:Nat,a<i->at' l (a:Int)=at' l' (a:Int))->wM m l i=wM m l' i
 | 0,_=>rfl
 | i+1,h=>by
  have h1:=h i om
  have hI:∀q k,wI m l q i k=wI m l' q i k:=λq k=>by
   induction k with
   | zero=>rfl
   | succ k ih=>rw[wI,wI,ih,fq,fq,h1]
  rw[wM,wM,yw i (λa ha=>h a om),hI,cW,cW,h1]
theorem xt {m:GMission} {h:List Int} {i j:Nat} (hl:h.length=i) (hj:j<=m.N.length):wM m (h++[((j:Nat):Int)]) (i+1)=wM m h i*tq m i j:=by
 rw[wM,Ij (a:=j) (by rw[<-hl,iY]) hj]
 congr 1
 exact yw i λa ha=>eV om om
theorem up {α:Type} {f:α->Rat} {g:α->List α} {c:α->Rat}:∀l:List α,(∀x∈l,((g x).map f).sum=c x)->((l.flatMap g).map f).sum=(l.map c).sum
 | [],_=>by simp
 | x :: l,h=>by
  rw[List.flatMap_cons,map_append,sum_append,h x zSm,up l λy hy=>h y (by simp[hy])]
  simp
theorem AY {α:Type} {f:α->Rat} {q:Rat}:∀l:List α,(l.map λx=>q*f x).sum=q*(l.map f).sum
 | []=>by simp
 | x :: l=>by
  simp only[map_cons,sum_cons]
  rw[AY l];grind
theorem za {K i n:Nat} (h:i<=n):(K+1)^i<=(K+1)^n:=Nat.pow_le_pow_right om h
theorem qt {g g':Nat->Bool}:∀n,(∀k,k<n->g k=g' k)->iL g n=iL g' n
 | 0,_=>rfl
 | n+1,h=>by rw[iL,iL,qt n λk hk=>h k om,h n om]
theorem Bu {g g':Nat->Bool}:∀n,iL (λk=>g k || g' k) n=min (iL g n) (iL g' n)
 | 0=>rfl
 | n+1=>by
  have h1:=pE (g:=g) n
  have h2:=pE (g:=g') n
  rw[iL,iL,iL,Bu n]
  by_cases ha:iL g n=n<;>by_cases hb:iL g' n=n
  ·rw[if_pos om,if_pos ha,if_pos hb]
   cases hg:g n<;>cases hg':g' n<;>simp<;>omega
  ·rw[if_neg om,if_pos ha,if_neg hb]
   split<;>omega
  ·rw[if_neg om,if_neg ha,if_pos hb]
   split<;>omega
  ·rw[if_neg om,if_neg ha,if_neg hb]
def lD (K:Nat) (σ:Asg) (i:Nat):Nat:=iL (λk=>σ (i*K+k)) K
def jy (K n:Nat) (σ:Asg):List Int:=(range n).map λi=>((lD K σ i:Nat):Int)
theorem DS {K n:Nat} {σ:Asg}:(jy K n σ).length=n:=by simp[jy]
theorem xd {K n:Nat} {σ:Asg}:jy K (n+1) σ=jy K n σ++[((lD K σ n:Nat):Int)]:=by simp[jy,range_succ]
theorem Bt {K n i:Nat} {σ:Asg} (h:i<n):at' (jy K n σ) (i:Int)=((lD K σ i:Nat):Int):=cG h
theorem Ff {K i:Nat} {σ:Asg}:lD K σ i<=K:=pE K
theorem rx {K:Nat} {σ:Asg}:∀n,jy K n σ∈hsL K n
 | 0=>by simp[jy,hsL]
 | n+1=>by
  rw[xd,hsL,List.mem_flatMap]
  exact⟨_,rx n,List.mem_map.2 ⟨_,List.mem_range.2 (by have:=Ff (K:=K) (i:=n) (σ:=σ);omega),rfl⟩⟩
theorem As {K i:Nat} {σ σ':Asg} (h:∀k,k<K->σ (i*K+k)=σ' (i*K+k)):lD K σ i=lD K σ' i:=qt K h
theorem vv {K n:Nat} {σ σ':Asg} (h:∀i,i<n->lD K σ i=lD K σ' i):jy K n σ=jy K n σ':=
 map_congr_left λi hi=>by rw[h i (List.mem_range.1 hi)]
theorem DT {K n i:Nat} {σ σ':Asg} (h:jy K n σ=jy K n σ') (hi:i<n):lD K σ i=lD K σ' i:=by
 have:=congrArg (λl=>at' l (i:Int)) h
 simp only[Bt hi] at this
 omega
theorem DQ {l:List (List Int)} {a b:List Int} (ha:a∈l) (hb:b∈l) (h:l.idxOf a=l.idxOf b):a=b:=by
 have h1:l[l.idxOf a]? = some a:=by rw[List.getElem?_eq_getElem (List.idxOf_lt_length_of_mem ha),List.getElem_idxOf]
 have h2:l[l.idxOf b]? = some b:=by rw[List.getElem?_eq_getElem (List.idxOf_lt_length_of_mem hb),List.getElem_idxOf]
 rw[h,h2] at h1
 exact(Option.some.inj h1).symm
theorem FI.his {o:List Int} {F:Asg->Bool} {K n:Nat} (hF:∀σ σ',jy K n σ=jy K n σ'->F σ=F σ'):FI o F ((K+1)^n):=by
 refine λk=>⟨λσ=>(hsL K n).idxOf (jy K n (ou o k σ λ_=>false)),λσ=>?_,λσ σ' h ρ=>hF _ _ (vv λi hi=>?_)⟩
 ·rw[<-Bs]
  exact List.idxOf_lt_length_of_mem (rx n)
 ·have e:=DT (DQ (rx n) (rx n) h) hi
  have split:∀σ:Asg,lD K (ou o k σ ρ) i=min (lD K (ou o k σ λ_=>false) i) (lD K (ou o k (λ_=>false) ρ) i):=λσ=>by
   unfold lD
   rw[<-Bu]
   refine qt K λa _=>?_
   simp only[ou]
   split<;>simp
  rw[split σ,split σ',e]
def pA (m:GMission) (v:Nat):Rat:=pq m (v / m.N.length) (v % m.N.length)
section
variable {m:GMission}
theorem HL {i k:Nat} (hk:k<m.N.length):pA m (i*m.N.length+k)=pq m i k:=by
 unfold pA
 have h1:(i*m.N.length+k) / m.N.length=i:=by
  rw[mul_comm,Nat.mul_add_div om,Nat.div_eq_of_lt hk,add_zero]
 have h2:(i*m.N.length+k) % m.N.length=k:=by
  rw[mul_comm,Nat.mul_add_mod,Nat.mod_eq_of_lt hk]
 rw[h1,h2]
theorem blk {i:Nat} {H:Nat->Rat}:∀d k,k+d=m.N.length->∀τ:Asg,(∀j,j<k->τ (i*m.N.length+j)=false)->
  gq m i k*ex (pA m) (range' (i*m.N.length+k) d) (λτ'=>H (lD m.N.length τ' i)) τ+((range k).map λj=>tq m i j*H j).sum=((range (m.N.length+1)).map λj=>tq m i j*H j).sum
 | 0,k,hk,τ,ht=>by
  have e:lD m.N.length τ i=m.N.length:=pD _ λj hj=>ht j om
  rw[List.range'_zero,ex,e,range_succ,map_append,sum_append,show k=m.N.length by omega]
  simp only[map_cons,map_nil,sum_cons,sum_nil]
  rw[tq,if_neg om]
  grind
 | d+1,k,hk,τ,ht=>by
  have h1:=blk (i:=i) (H:=H) d (k+1) om (cz τ (i*m.N.length+k) false) λj hj=>by
   rcases lt_or_ge j k with h | h
   ·rw[gI om];exact ht j h
   ·obtain rfl:j=k:=om
    rw[fJ]
  have h2:ex (pA m) (range' (i*m.N.length+k+1) d) (λτ'=>H (lD m.N.length τ' i)) (cz τ (i*m.N.length+k) true)=H k:=by
   have hc:=rH (p:=pA m) (range' (i*m.N.length+k+1) d) (g:=λτ'=>H (lD m.N.length τ' i)) (g':=λ_=>H k) (σ:=cz τ (i*m.N.length+k) true) λτ' hτ=>by
    have hb:∀j,j<=k->τ' (i*m.N.length+j)=cz τ (i*m.N.length+k) true (i*m.N.length+j):=λj hj=>hτ _ (by rw[List.mem_range'_1];omega)
    have e:lD m.N.length τ' i=k:=vD (λj hj=>by rw[hb j om,gI om];exact ht j hj) (by rw[hb k (le_refl _),fJ]) _ om
    rw[e]
   rw[hc,o4]
  rw[List.range'_succ,ex,h2,HL om]
  rw[range_succ,map_append,sum_append] at h1
  simp only[map_cons,map_nil,sum_cons,sum_nil] at h1
  rw[<-h1,gq,<-Nat.add_assoc,show tq m i k=gq m i k*pq m i k by unfold tq;rw[if_pos om]]
  grind
theorem DZ:∀n (G:List Int->Rat) (σ:Asg),ex (pA m) (range (n*m.N.length)) (λτ=>G (jy m.N.length n τ)) σ=((hsL m.N.length n).map λh=>wM m h n*G h).sum
 | 0,G,σ=>by
  simp only[Nat.zero_mul,List.range_zero,ex,jy,hsL,map_nil,map_cons,sum_cons,sum_nil,wM]
  grind
 | n+1,G,σ=>by
  have er:range ((n+1)*m.N.length)=range (n*m.N.length)++range' (n*m.N.length) m.N.length:=by
   rw[succ_mul,List.range_add,List.range'_eq_map_range]
  have hb:∀τ:Asg,ex (pA m) (range' (n*m.N.length) m.N.length) (λτ'=>G (jy m.N.length (n+1) τ')) τ=(λh=>((range (m.N.length+1)).map λj=>tq m n j*G (h++[((j:Nat):Int)])).sum) (jy m.N.length n τ):=λτ=>by
   have h1:=rH (p:=pA m) (range' (n*m.N.length) m.N.length) (g:=λτ'=>G (jy m.N.length (n+1) τ')) (g':=λτ'=>(λj:Nat=>G (jy m.N.length n τ++[(j:Int)])) (lD m.N.length τ' n)) (σ:=τ) λτ' hτ=>by
    have e:jy m.N.length n τ'=jy m.N.length n τ:=vv λi hi=>As λk hk=>hτ _ (by
     have:=nW (K:=m.N.length) hi
     rw[List.mem_range'_1];omega)
    rw[xd,e]
   have h2:=blk (m:=m) (i:=n) (H:=λj=>G (jy m.N.length n τ++[(j:Int)])) m.N.length 0 om τ λj hj=>absurd hj om
   rw[h1]
   simp only[gq,List.range_zero,map_nil,sum_nil,add_zero] at h2
   refine Eq.trans ?_ h2
   grind
  have hn:=DZ n (λh=>((range (m.N.length+1)).map λj=>tq m n j*G (h++[((j:Nat):Int)])).sum) σ
  rw[er,Ax,nX _ hb]
  refine Eq.trans hn ?_
  rw[hsL]
  rw[up (c:=λh=>wM m h n*((range (m.N.length+1)).map λj=>tq m n j*G (h++[((j:Nat):Int)])).sum) _ λh hm=>?_]
  have hl:=(Br n h hm).1
  rw[map_map,<-AY]
  congr 1
  refine map_congr_left λj hj=>?_
  show wM m (h++[((j:Nat):Int)]) (n+1)*G (h++[((j:Nat):Int)])=_
  rw[xt hl (by have:=List.mem_range.1 hj;omega)]
  grind
end
section
variable {m:GMission}
theorem vu {σ:Asg}:Fits m (jF σ (m.P.length*m.N.length)) (jy m.N.length m.P.length σ):=by
 refine⟨DS,λi hi j hj=>?_⟩
 have hx:=nW (i:=i) (n:=m.P.length) (K:=m.N.length) hi
 rw[Bt hi]
 constructor
 ·intro h
  have h1:lD m.N.length σ i<m.N.length:=om
  refine⟨lD m.N.length σ i,om,?_⟩
  rw[yk om]
  exact xX (g:=λk=>σ (i*m.N.length+k)) h1
 ·rintro⟨k,hk,h⟩
  rw[yk om] at h
  rcases lt_or_ge j (lD m.N.length σ i) with h1 | h1
  ·have:=ky (g:=λk=>σ (i*m.N.length+k)) (n:=m.N.length) (i:=k) (by unfold lD at h1;omega)
   rw[h] at this;cases this
  ·omega
theorem v9:∀J t,t<(fA m J).length->t<m.P.length*(m.N.length-1)\/∃j u,j<J/\t=(fA m j).length+u/\u<(at' m.N (j:Int)).V.length
 | 0,t,h=>by rw[fA,kw] at h;exact .inl h
 | J+1,t,h=>by
  rcases lt_or_ge t (fA m J).length with h1 | h1
  ·rcases v9 J t h1 with h2 | ⟨j,u,hj,h3⟩
   ·exact .inl h2
   ·exact .inr ⟨j,u,om,h3⟩
  ·rw[fA,length_append,phN,length_map] at h
   exact .inr ⟨J,t-(fA m J).length,om,om,om⟩
theorem CW (o:OkM m) (h128:(dK m).length<=128) {s s':Nat} {l:List Int} (hf:Fits m s l) (hf':Fits m s' l) {t:Nat} (ht:t<(dK m).length) :
  at' (cO (jN m) s (dK m).length) ((m.P.length*m.N.length:Nat)+(t:Int))=at' (cO (jN m) s' (dK m).length) ((m.P.length*m.N.length:Nat)+(t:Int)):=by
 have he:=o.ev
 have main:t<(fA m m.N.length).length->at' (cO (jN m) s (dK m).length) ((m.P.length*m.N.length:Nat)+(t:Int))=at' (cO (jN m) s' (dK m).length) ((m.P.length*m.N.length:Nat)+(t:Int)):=λhall=>by
  rcases v9 _ t hall with h | ⟨j,u,hj,rfl,hu⟩
  ·have hk1:0<m.N.length-1:=by
    rcases Nat.eq_zero_or_pos (m.N.length-1) with h0 | h0
    ·rw[h0,Nat.mul_zero] at h;omega
    ·exact h0
   have hi:t / (m.N.length-1)<m.P.length:=Nat.div_lt_of_lt_mul (by rw[mul_comm];exact h)
   have hm:=mod_lt t hk1
   have hdm:=Nat.div_add_mod t (m.N.length-1)
   rw[mul_comm] at hdm
   have e:((m.P.length*m.N.length:Nat):Int)+(t:Int)=byv m.P.length m.N.length (t / (m.N.length-1)) (t % (m.N.length-1)+1):=by
    unfold byv
    rw[if_neg om]
    generalize t / (m.N.length-1)*(m.N.length-1)=z at hdm ⊢
    omega
   rw[e,z5 o h128 s hi om,z5 o h128 s' hi om]
   exact decide_eq_decide.2 ((hf.2 _ hi _ om).symm.trans (hf'.2 _ hi _ om))
  ·have hv:=(o.fg j hj).2
   have e:((m.P.length*m.N.length:Nat):Int)+(((fA m j).length+u:Nat):Int)=mv m.P.length m.N.length j (iz m j) ((m.P.length+u:Nat):Int):=by
    unfold mv iz
    rw[if_neg om]
    omega
   rw[e,r_ o h128 hf hj _ om,r_ o h128 hf' hj _ om]
 rcases lt_or_ge t (fA m m.N.length).length with h | h
 ·exact main h
 ·have h1:1<m.N.length:=by
   rcases lt_or_ge 1 m.N.length with h1 | h1
   ·exact h1
   ·exfalso
    unfold dK at ht
    rw[if_neg om] at ht
    omega
  have e:((m.P.length*m.N.length:Nat):Int)+(t:Int)=tn m:=by
   unfold dK at ht
   rw[if_pos h1,length_append,length_singleton] at ht
   unfold tn iz
   rw[if_pos h1]
   omega
  have e1:=z6 o h128 hf
  have e2:=z6 o h128 hf'
  rw[e]
  exact e1.trans e2.symm
theorem rY:(jN m).A.toNat=m.P.length*m.N.length:=by show toNat ((m.P.length*m.N.length:Nat):Int)=_;omega
theorem BS (o:OkM m) (h128:(dK m).length<=128) {t:Nat} (ht:t<(dK m).length) {σ σ':Asg} (h:jy m.N.length m.P.length σ=jy m.N.length m.P.length σ'):oR (jN m) t σ=oR (jN m) t σ':=by
 unfold oR
 rw[rY]
 have hf':=vu (m:=m) (σ:=σ')
 rw[<-h] at hf'
 exact CW o h128 vu hf' ht
theorem Gm (o:OkM m) (h128:(dK m).length<=128) {σ:Asg}:fF (jN m) σ=decide (cy m (jy m.N.length m.P.length σ)<m.N.length):=by
 unfold fF
 rw[rY]
 exact z6 o h128 vu
def vH (m:GMission):Rat:=((hsL m.N.length m.P.length).map λh=>wM m h m.P.length*b2q (decide (cy m h<m.N.length))).sum
theorem Gn (o:OkM m) (h128:(dK m).length<=128):exF (pA m) (jN m)=vH m:=by
 unfold exF vH
 rw[rY,nX _ (g':=λτ=>(λh=>b2q (decide (cy m h<m.N.length))) (jy m.N.length m.P.length τ)) λτ=>by rw[Gm o h128]]
 exact DZ m.P.length (λh=>b2q (decide (cy m h<m.N.length))) _
theorem xz (o:OkM m) {i k:Nat} (hk:k<m.N.length):∀n,n<=m.P.length->i<n->at' (qH m n) ((i*m.N.length+k:Nat):Int)=at' (at' m.P (i:Int)) (k:Int)
 | 0,_,h=>absurd h om
 | n+1,hn,h=>by
  have hl:=o.unfP_len n om
  rw[qH]
  rcases lt_or_ge i n with h1 | h1
  ·have hx:=nW (K:=m.N.length) h1
   rw[eV om om]
   exact xz o hk n om h1
  ·obtain rfl:i=n:=om
   rw[<-hl,lH]
theorem Gp (o:OkM m):PL (qH m m.P.length) (pA m) (m.P.length*m.N.length):=by
 have hk0:=o.k0
 have split:∀v,v<m.P.length*m.N.length->v / m.N.length<m.P.length/\v % m.N.length<m.N.length/\v=v / m.N.length*m.N.length+v % m.N.length:=λv hv=>
  ⟨Nat.div_lt_of_lt_mul (by rw[mul_comm];exact hv),mod_lt _ hk0,by have:=Nat.div_add_mod v m.N.length;rw[mul_comm] at this;omega⟩
 refine⟨o.unfP_len _ (le_refl _),λv hv=>?_,λv hv=>?_⟩
 ·obtain⟨h1,h2,h3⟩:=split v hv
  have e:at' (qH m m.P.length) (v:Int)=at' (at' m.P ((v / m.N.length:Nat):Int)) ((v % m.N.length:Nat):Int):=by
   have:=xz o h2 m.P.length (le_refl _) h1
   rw[<-h3] at this
   exact this
  rw[e]
  exact o.pRp h1 h2
 ·obtain⟨h1,h2,h3⟩:=split v hv
  have hp:=o.prob _ h1 _ h2
  unfold fW at hp
  simp only[Bool.and_eq_true,decide_eq_true_eq] at hp
  exact hp.2
theorem CX (o:OkM m) {v:Nat} (hv:v<m.P.length*m.N.length):fW (at' (qH m m.P.length) (v:Int))=true:=by
 have hk0:=o.k0
 have h1:v / m.N.length<m.P.length:=Nat.div_lt_of_lt_mul (by rw[mul_comm];exact hv)
 have h2:=mod_lt v hk0
 have h3:v=v / m.N.length*m.N.length+v % m.N.length:=by have:=Nat.div_add_mod v m.N.length;rw[mul_comm] at this;omega
 have:=xz o h2 m.P.length (le_refl _) h1
 rw[<-h3] at this
 rw[this]
 exact o.prob _ h1 _ h2
theorem tY (o:OkM m) (h128:(dK m).length<=128):rng (jN m).F:=by
 have g:=z7 o h128
 have:=g.top0;have:=g.top;have:=g.v24;have:=g.n128
 unfold rng;omega
theorem Av:∀K,K<7->∀n,n<25->(K+1)^n<=300->n*K*(K+1)^n<=4096:=by decide +kernel
theorem BZ (o:OkM m) (h128:(dK m).length<=128) (h300:(m.N.length+1)^m.P.length<=300) {ord:List Int} (hl:(ord.length:Int)=(jN m).A) {t:Nat} (ht:t<(dK m).length):pK ord (oR (jN m) t):=by
 refine .fin (c:=(m.N.length+1)^m.P.length) (.his λσ σ' h=>BS o h128 ht h) ?_
 have h6:=o.k6
 have h24:=o.p24
 have e:ord.length=m.P.length*m.N.length:=by have:=rY (m:=m);omega
 rw[e]
 exact Av _ om _ om h300
theorem FJ {Q:GRat->Option Int->Prop} (w:WrM m) (hf:FrM m) (h1:ge m≠0->Q ⟨false,[],[]⟩ (some (ge m))) (h4:ge m=0->128<(dK m).length->Q ⟨false,[],[]⟩ (some 4))
  (hS:ge m=0->(dK m).length<=128->(m.N.length+1)^m.P.length<=300\/Q ⟨false,[],[]⟩ (some 4)) (h2:ge m=0->(dK m).length<=128->Rp 4000 (a8 (vH m)) (vH m)->Q (a8 (vH m)) none):kO m Q:=by
 refine tH w hf (λhe=>bg (λ_=>h1 he) (λhc=>by cases hc)) (λhe hl=>bg (λ_=>h4 he hl) (λhc=>by cases hc)) (λhe hl=>bg (λhc=>by cases hc) (λ_=>?_))
 have o:=okM w hf he
 have hQ:=h2 he hl
 rw[<-Gn o hl] at hQ
 have g:=z7 o hl
 have hb:∀i:Nat,i<(jN m).A.toNat->fW (at' (qH m m.P.length) (i:Int))=true:=λi hi=>CX o (by rw[rY] at hi;exact hi)
 have hp:PL (qH m m.P.length) (pA m) (jN m).A.toNat:=by rw[rY];exact Gp o
 rcases hS he hl with h300 | h300
 ·exact F6 g (tY o hl) hp hb (λord hO hlo Q' _ hQ'=>ot (tY o hl) (λhne=>absurd (o8.2 ⟨g,hO,hlo⟩) hne) (λ_=>.inl λi hi=>BZ o hl h300 hlo hi) λ_=>hQ') hQ
 ·exact F6 g (tY o hl) hp hb (λord hO hlo Q' h4' hQ'=>ot (tY o hl) (λhne=>absurd (o8.2 ⟨g,hO,hlo⟩) hne) (λ_=>.inr (h4' h300)) λ_=>hQ') hQ
end
def rs (f:Nat->Rat) (n:Nat):Rat:=((range n).map f).sum
theorem jZ {f:Nat->Rat} {n:Nat}:rs f (n+1)=rs f n+f n:=by
 unfold rs
 rw[range_succ,map_append,sum_append]
 simp only[map_cons,map_nil,sum_cons,sum_nil]
 grind
theorem tX {f:Nat->Rat}:rs f 0=0:=rfl
theorem Dd {f:Nat->Rat} {a:Nat}:∀b,rs f (a+b)=rs f a+rs (λy=>f (a+y)) b
 | 0=>by rw[add_zero,tX];grind
 | b+1=>by rw[<-Nat.add_assoc,jZ,Dd b,jZ];grind
theorem Dc {f:Nat->Rat} {b:Nat}:∀a,rs f (a*b)=rs (λj=>rs (λy=>f (j*b+y)) b) a
 | 0=>by rw[Nat.zero_mul];rfl
 | a+1=>by rw[succ_mul,Dd,Dc a,jZ]
theorem uD {f g:Nat->Rat}:∀n,(∀i,i<n->f i=g i)->rs f n=rs g n
 | 0,_=>rfl
 | n+1,h=>by rw[jZ,jZ,uD n λi hi=>h i om,h n om]
theorem A5 {α:Type} {f:Nat->α->Rat} {l:List α}:∀n,rs (λj=>(l.map (f j)).sum) n=(l.map λx=>rs (λj=>f j x) n).sum
 | 0=>by
  induction l with
  | nil=>rfl
  | cons x l ih=>simp only[map_cons,sum_cons];rw[<-ih,tX,tX,tX];grind
 | n+1=>by
  rw[jZ,A5 n]
  induction l with
  | nil=>simp only[map_nil,sum_nil];grind
  | cons x l ih=>
   simp only[map_cons,sum_cons]
   rw[jZ,<-ih];grind
def dig (K n x:Nat):List Int:=(range n).map λi=>((x / (K+1)^i % (K+1):Nat):Int)
theorem rK {K n x:Nat}:(dig K n x).length=n:=by simp[dig]
theorem D2 {K n x i:Nat} (h:i<n):at' (dig K n x) (i:Int)=((x / (K+1)^i % (K+1):Nat):Int):=cG h
theorem D1 {K n j y:Nat} (hj:j<=K) (hy:y<(K+1)^n):dig K (n+1) (j*(K+1)^n+y)=dig K n y++[(j:Int)]:=by
 unfold dig
 rw[range_succ,map_append]
 congr 1
 ·refine map_congr_left λi hi=>?_
  have hi:=List.mem_range.1 hi
  have e:j*(K+1)^n+y=(K+1)^i*((K+1)*(j*(K+1)^(n-i-1)))+y:=by
   rw[show n=i+(1+(n-i-1)) by omega,Nat.pow_add,Nat.pow_add,Nat.pow_one,show i+(1+(n-i-1))-i-1=n-i-1 by omega]
   congr 1
   rw[Nat.mul_left_comm,Nat.mul_left_comm j]
  rw[e,Nat.mul_add_div (pow_pos om),Nat.mul_add_mod]
 ·rw[map_cons,map_nil,mul_comm,Nat.mul_add_div (pow_pos om),Nat.div_eq_of_lt hy,add_zero,Nat.mod_eq_of_lt om]
theorem BE {K:Nat}:∀n (g:List Int->Rat),rs (λx=>g (dig K n x)) ((K+1)^n)=((hsL K n).map g).sum
 | 0,g=>by simp[rs,hsL,dig]
 | n+1,g=>by
  rw[pow_succ,mul_comm,Dc]
  rw[uD (g:=λj=>((hsL K n).map λh=>g (h++[(j:Int)])).sum) (K+1) λj hj=>?_]
  ·rw[A5,hsL,up (c:=λh=>rs (λj=>g (h++[(j:Int)])) (K+1)) _ λh _=>?_]
   rw[map_map];rfl
  ·rw[<-BE n]
   exact uD _ λy hy=>by rw[D1 om hy]
section
variable {m:GMission}
theorem Hd {x:Nat}:OkH m (dig m.N.length m.P.length x):=by
 refine⟨rK,λi hi=>?_⟩
 rw[rK] at hi
 rw[D2 hi]
 have:=mod_lt (x / (m.N.length+1)^i) (show 0<m.N.length+1 by omega)
 omega
def eT (m:GMission) (j:Nat) (h:List Int):Rat:=wM m h m.P.length*b2q (decide (cy m h=j))
def rJ (m:GMission) (j:Nat):Rat:=((hsL m.N.length m.P.length).map (eT m j)).sum
def q_ (K:Nat) (S:Nat->Rat):List GRat:=(range K).map λj=>a8 (S j)
theorem nl {K:Nat} {S:Nat->Rat}:(q_ K S).length=K:=by simp[q_]
theorem t5 {K j:Nat} {S:Nat->Rat} (h:j<K):at' (q_ K S) (j:Int)=a8 (S j):=cG h
theorem B6 {K:Nat}:bS ((K:Nat):Int) (⟨false,[],[]⟩:GRat)=q_ K (λ_=>0):=by
 refine tf (by rw[nl];simp[bS]) λi hi=>?_
 have hi:i<K:=by simpa[bS] using hi
 rw[t5 hi,Df om]
 simp[a8]
theorem uT {K:Nat} {S S':Nat->Rat} (h:∀a,a<K->S a=S' a):q_ K S=q_ K S':=map_congr_left λa ha=>by rw[h a (List.mem_range.1 ha)]
theorem Dn {K j:Nat} {S S':Nat->Rat} (hj:j<K) (h:∀a,a<K->a≠j->S a=S' a):bu (q_ K S) (j:Int) (a8 (S' j))=q_ K S':=by
 refine tf (by rw[eu,nl,nl]) λi hi=>?_
 rw[eu,nl] at hi
 rw[jY (by rw[nl];exact hj),t5 hi,t5 hi]
 split
 ·rename_i e;rw[e]
 ·rename_i e;rw[h i hi e]
theorem Ha {h:List Int}:eT m (cy m h) h=wM m h m.P.length:=by
 unfold eT
 rw[decide_eq_true rfl]
 show _*(1:Rat)=_
 grind
theorem BC {j:Nat} {h:List Int} (hj:j≠cy m h):eT m j h=0:=by
 unfold eT
 rw[decide_eq_false (λe=>hj e.symm)]
 show _*(0:Rat)=_
 grind
def n_ (m:GMission) (l:Nat->List Int) (i j:Nat):Rat:=rs (λx=>eT m j (l x)) i
structure Acc (m:GMission) (l:Nat->List Int) (i:Nat) (out:List GRat):Prop where
 eq:out=q_ m.N.length (n_ m l i)
 rp:∀j,j<m.N.length->Rp (64+i*100001) (a8 (n_ m l i j)) (n_ m l i j)
theorem Acc.zero {l:Nat->List Int} {out:List GRat} (h:out=q_ m.N.length (λ_=>0)):Acc m l 0 out:=⟨h,λj _=>by
 have:n_ m l 0 j=0:=rfl
 rw[this]
 simpa[a8] using Rp.zero (k:=64) (by decide) (by decide)⟩
theorem Acc.skip {l:Nat->List Int} {i:Nat} {out:List GRat} (h:Acc m l i out) (hr:m.N.length<=cy m (l i)) (hi:i<=1000):Acc m l (i+1) out:=by
 have e:∀j,j<m.N.length->n_ m l (i+1) j=n_ m l i j:=λj hj=>by
  unfold n_
  rw[jZ,BC om]
  grind
 refine⟨h.eq.trans (uT λa ha=>(e a ha).symm),λj hj=>?_⟩
 rw[e j hj]
 exact(h.rp j hj).mono om
theorem Eo {l:Nat->List Int} {i:Nat}:n_ m l i (cy m (l i))+wM m (l i) m.P.length=n_ m l (i+1) (cy m (l i)):=by
 unfold n_
 rw[jZ,Ha]
theorem Acc.hit {l:Nat->List Int} {i:Nat} {out:List GRat} (h:Acc m l i out) (hr:cy m (l i)<m.N.length) (hi:i<=1000) (hR:Rp (64+i*100001+100000+1) (a8 (n_ m l (i+1) (cy m (l i)))) (n_ m l (i+1) (cy m (l i)))) :
  Acc m l (i+1) (bu out ((cy m (l i):Nat):Int) (a8 (n_ m l (i+1) (cy m (l i))))):=by
 have e:∀j,j≠cy m (l i)->n_ m l (i+1) j=n_ m l i j:=λj hj=>by
  unfold n_
  rw[jZ,BC hj]
  grind
 refine⟨by rw[h.eq];exact Dn (S':=n_ m l (i+1)) hr λa _ hne=>(e a hne).symm,λj hj=>?_⟩
 by_cases hje:j=cy m (l i)
 ·rw[hje];exact hR.mono om
 ·rw[e j hje];exact(h.rp j hj).mono om
theorem pQ {Q:List GRat->Option Int->Prop} (w:WrM m) (hf:FrM m) (h1:ge m≠0->Q [] (some (ge m))) (h4:ge m=0->4096<(m.N.length+1)^m.P.length->Q [] (some 4))
  (hfew:ge m=0->(m.N.length+1)^m.P.length<=300\/4096<(m.N.length+1)^m.P.length) (h2:ge m=0->(m.N.length+1)^m.P.length<=300->Q (q_ m.N.length (rJ m)) none):iy m Q:=by
 refine jt w hf ?_
 rw[ee]
 refine condT (λhe=>?_) (λhe=>?_)
 ·rw[pG he];exact h1 he
 have he:=Classical.not_not.1 he
 have o:=okM w hf he
 have hp:=o.p24
 have hk6:=o.k6
 have h4:=h4 he
 have h2:=h2 he
 refine ey (n:=m.P.length) (λi (y:Int×Int)=>y=((((m.N.length+1)^i:Nat):Int),(i:Int))/\(m.N.length+1)^i<=4096) (λy=>y.2) 0 (λi y h=>by rw[h.1];simp) ⟨by simp,by simp⟩ ?_ ?_
 ·rintro i _ next hi ⟨rfl,hI⟩ hn
  have e:(((m.N.length+1)^i:Nat):Int)*((m.N.length:Int)+1)=(((m.N.length+1)^(i+1):Nat):Int):=by rw[pow_succ];simp
  have hb:(m.N.length+1)^(i+1)<=4096*7:=by rw[pow_succ];exact Nat.mul_le_mul hI om
  have hg:=za (K:=m.N.length) (show i+1<=m.P.length from hi)
  refine condT (λ_=>?_) (λhc=>absurd (show(i:Int)<(m.P.length:Int) by omega) hc)
  rw[e]
  refine⟨zRg,by generalize (m.N.length+1)^(i+1)=z at hb;unfold rng;omega,condT (λhc=>h4 om) (λhc=>⟨zRg,hn _ ⟨rfl,om⟩⟩)⟩
 rintro _ next ⟨rfl,hI⟩
 have h300:(m.N.length+1)^m.P.length<=300:=by rcases hfew he with h | h<;>omega
 have h2:=h2 h300
 refine condT (λhc=>absurd hc om) (λ_=>⟨⟨om,om,om,om⟩,?_⟩)
 refine ey (n:=(m.N.length+1)^m.P.length) (λi (y:Int×List GRat)=>y.1=(i:Int)/\Acc m (dig m.N.length m.P.length) i y.2) (λy=>y.1) 0 (λi y h=>by rw[h.1];simp) ⟨rfl,.zero B6⟩ ?_ ?_
 ·rintro x ⟨x1,out⟩ next2 hx ⟨hx1,hA⟩ hn2
  dsimp only at hx1 hA
  subst hx1
  have hlen:out.length=m.N.length:=by rw[hA.eq,nl]
  refine condT (λ_=>⟨⟨om,om,om,om⟩,?_⟩) (λhc=>absurd (show(x:Int)<(((m.N.length+1)^m.P.length:Nat):Int) by omega) hc)
  have ek:((m.N.length:Int)+1)=((m.N.length+1:Nat):Int):=by simp
  refine ey (n:=m.P.length) (λi (y:Int×Int×List Int)=>(y.1=((x / (m.N.length+1)^i:Nat):Int)/\y.2.1=(i:Int)/\y.2.2.length=m.P.length)/\∀a:Nat,a<i->at' y.2.2 (a:Int)=((x / (m.N.length+1)^a % (m.N.length+1):Nat):Int)) (λy=>y.2.1) 0 (λi y h=>by rw[h.1.2.1];simp) ⟨⟨by simp,rfl,by simp[bS]⟩,λa ha=>absurd ha om⟩ ?_ ?_
  ·rintro i ⟨number,x2,hh⟩ next3 hi ⟨⟨e1,e2,e3⟩,hI⟩ hn3
   dsimp only at e1 e2 e3 hI
   subst e1 e2
   have hle:=Nat.div_le_self x ((m.N.length+1)^i)
   have hle2:=Nat.div_le_self (x / (m.N.length+1)^i) (m.N.length+1)
   have ed:Int.tdiv ((x / (m.N.length+1)^i:Nat):Int) ((m.N.length+1:Nat):Int)=((x / (m.N.length+1)^(i+1):Nat):Int):=by
    rw[pow_succ,<-Nat.div_div_eq_div_mul];rfl
   have em:Int.tmod ((x / (m.N.length+1)^i:Nat):Int) ((m.N.length+1:Nat):Int)=((x / (m.N.length+1)^i % (m.N.length+1):Nat):Int):=rfl
   have hle3:x / (m.N.length+1)^(i+1)<=x:=Nat.div_le_self x _
   refine condT (λ_=>?_) (λhc=>absurd (show(i:Int)<((toNat (m.P.length:Int)):Int) by omega) hc)
   rw[ek,ed,em]
   refine⟨zRg,om,zRg,⟨om,by generalize x / (m.N.length+1)^(i+1)=z at hle3;unfold rng;omega⟩,⟨om,om⟩,zRg,hn3 _ ⟨⟨rfl,rfl,by dsimp only;rw[eu];exact e3⟩,λa ha=>?_⟩⟩
   dsimp only
   rw[jY om]
   split
   ·rename_i e;rw[e]
   ·exact hI a om
  ·rintro⟨number,x2,hh⟩ next3 ⟨⟨e1,e2,e3⟩,hI⟩
   dsimp only at e1 e2 e3 hI
   subst e1 e2
   have ehh:hh=dig m.N.length m.P.length x:=tf (by rw[rK,e3]) λa ha=>by rw[hI a om,D2 om]
   subst ehh
   have hE:=HO he (Hd (m:=m) (x:=x))
   have hll:(dig m.N.length m.P.length x).length<=9223372036854775807:=by rw[rK];omega
   refine condT (λhc=>absurd hc om) (λ_=>uQ w hf hll (λhne=>absurd hE hne) λ_=>bg (λhc=>by cases hc) (λ_=>bV (λhr=>?_) (λhr=>?_)))
   ·exact⟨zRg,hn2 _ ⟨rfl,hA.skip om om⟩⟩
   ·have hfl:cy m (dig m.N.length m.P.length x)<m.N.length:=by
     have:=pE (g:=λj=>FV (at' m.N (j:Int)) (oY (dig m.N.length m.P.length x) (j:Int))) m.N.length
     have:cy m (dig m.N.length m.P.length x)<=m.N.length:=this
     omega
    refine tG w hf hll (λhne=>absurd hE hne) λ_ hw=>bg (λhc=>by cases hc) (λ_=>⟨⟨om,om⟩,?_⟩)
    rw[rK] at hw ⊢
    have hat:at' out ((cy m (dig m.N.length m.P.length x):Nat):Int)=a8 (n_ m (dig m.N.length m.P.length) x (cy m (dig m.N.length m.P.length x))):=by rw[hA.eq,t5 hfl]
    rw[hat]
    refine Em (hA.rp _ hfl) hw (by simp only[cap];omega) λhR=>⟨⟨om,om⟩,zRg,hn2 _ ⟨rfl,?_⟩⟩
    rw[Eo] at hR ⊢
    exact hA.hit hfl om hR
 ·rintro⟨x1,out⟩ next2 ⟨hx1,hA⟩
  dsimp only at hx1 hA
  subst hx1
  refine condT (λhc=>absurd hc om) (λ_=>?_)
  rw[hA.eq]
  have e:q_ m.N.length (n_ m (dig m.N.length m.P.length) ((m.N.length+1)^m.P.length))=q_ m.N.length (rJ m):=uT λa _=>BE _ _
  rw[e]
  exact h2
end
section
variable {m:GMission}
theorem ph {Q:Int->Prop} (o:OkM m) (h1:(m.N.length+1)^m.P.length<=4096->Q (((m.N.length+1)^m.P.length:Nat):Int)) (h2:4096<(m.N.length+1)^m.P.length->∀x:Int,4096<x->Q x):gJ m Q:=by
 have hp:=o.p24
 have hk6:=o.k6
 have ev:=o.ev
 refine ey (n:=m.P.length) (λi (y:Int×Int)=>y=((((m.N.length+1)^i:Nat):Int),(i:Int))/\(m.N.length+1)^i<=4096*7) (λy=>y.2) 0 (λi y h=>by rw[h.1];simp) ⟨by simp,by simp⟩ ?_ ?_
 ·rintro i _ next hi ⟨rfl,hI⟩ hn
  have e:(((m.N.length+1)^i:Nat):Int)*((m.N.length:Int)+1)=(((m.N.length+1)^(i+1):Nat):Int):=by rw[pow_succ];simp
  have hg:=za (K:=m.N.length) (show i<=m.P.length by omega)
  refine jo o.k0 (condT (λ_=>condT (λhc=>?_) (λhc=>h2 om _ om)) (λhc=>absurd (show(i:Int)<evt m by omega) hc))
  have hb:(m.N.length+1)^(i+1)<=4096*7:=by rw[pow_succ];exact Nat.mul_le_mul om om
  rw[e]
  exact⟨zRg,by generalize (m.N.length+1)^(i+1)=z at hb;unfold rng;omega,zRg,hn _ ⟨rfl,hb⟩⟩
 ·rintro _ next ⟨rfl,hI⟩
  refine jo o.k0 (condT (λhc=>absurd hc om) (λ_=>?_))
  rcases lt_or_ge 4096 ((m.N.length+1)^m.P.length) with h | h
  ·exact h2 h _ om
  ·exact h1 h
theorem wG {Q:Bool->Prop} (w:WrM m) (h:∀b,(b=false->FrM m/\(ge m=0->(m.N.length+1)^m.P.length<=300\/4096<(m.N.length+1)^m.P.length))->Q b):nb m Q:=by
 have ht:Q true:=h true λhh=>by cases hh
 refine condT (λ_=>ht) (λ_=>condT (λ_=>ht) (λhp=>?_))
 refine kn (λi=>¬∀j:Nat,j<(at' m.P (i:Int)).length->Fr (at' (at' m.P (i:Int)) (j:Int))/\RB 129 (bp (at' (at' m.P (i:Int)) (j:Int)))) w.lp (λi next hi hI hnx=>?_) (λhall=>?_)
 ·refine⟨⟨om,om⟩,condT (λ_=>ht) (λhl=>?_)⟩
  have hb:(0:Int)<=(i:Int)/\(i:Int)<(m.P.length:Int):=⟨om,om⟩
  refine ey (n:=(at' m.P (i:Int)).length) (λj y=>y=(j:Int)/\∀k:Nat,k<j->Fr (at' (at' m.P (i:Int)) (k:Int))/\RB 129 (bp (at' (at' m.P (i:Int)) (k:Int)))) (λy=>y) 0 (λj y h=>by rw[h.1,Int.add_zero]) ⟨rfl,λk hk=>absurd hk om⟩ ?_ ?_
  ·rintro j _ next2 hj ⟨rfl,hI2⟩ hn2
   have hb2:(0:Int)<=(j:Int)/\(j:Int)<((at' m.P (i:Int)).length:Int):=⟨om,om⟩
   refine⟨hb,condT (λ_=>⟨hb,hb2,condT (λ_=>ht) (λh1=>⟨hb,hb2,condT (λ_=>ht) (λh2=>⟨zRg,hn2 _ ⟨om,λk hk=>?_⟩⟩)⟩)⟩) (λhc=>absurd hb2.2 hc)⟩
   rcases lt_or_ge k j with h3 | h3
   ·exact hI2 k h3
   ·obtain rfl:k=j:=om
    obtain⟨w1,w2⟩:=w.wd i hi k hj
    exact⟨⟨w1,w2,om,om⟩,(BQ w1 w2 (m:=4) om om).mono om⟩
  ·rintro _ next2 ⟨rfl,hI2⟩
   exact⟨hb,condT (λhc=>absurd hc om) (λ_=>hnx (λhh=>hh hI2))⟩
 ·have f:FrM m:=λ_ i hi=>Classical.not_not.1 (hall _ i) hi
  refine j2 w f (bV (λhe=>?_) (λhe=>h false λ_=>⟨f,λhh=>absurd hh he⟩))
  have o:=okM w f he
  refine ph o (λh4=>condT (λh3=>?_) (λh3=>h false λ_=>⟨f,λ_=>.inl om⟩)) (λh4 x hx=>condT (λ_=>?_) (λh3=>absurd (show(300:Int)<x by omega) h3))
  ·exact ph o (λ_=>by rw[decide_eq_true om];exact ht) (λh5=>absurd h5 om)
  ·refine ph o (λh5=>absurd h4 om) (λ_ x hx=>?_)
   rw[decide_eq_false om]
   exact h false λ_=>⟨f,λ_=>.inr h4⟩
end
section
variable {r:GRat} (hv:bp r=kx)
include hv in
theorem FX {i:Nat} (hi:i<2):tq (exM r) i 0=1 / 2/\tq (exM r) i 1=1 / 4/\tq (exM r) i 2=1 / 4:=by
 have hp:∀j,j<2->pq (exM r) i j=1 / 2:=λj hj=>by
  have:pq (exM r) i j=bp r:=by
   unfold pq
   rcases (show i=0\/i=1 by omega) with rfl | rfl<;>rcases (show j=0\/j=1 by omega) with rfl | rfl<;>rfl
  rw[this,hv]
  unfold kx
  decide +kernel
 have e2:(exM r).N.length=2:=rfl
 have h0:=hp 0 om
 have h1:=hp 1 om
 refine⟨?_,?_,?_⟩
 ·unfold tq
  rw[if_pos (by rw[e2];omega),gq,h0];grind
 ·unfold tq
  rw[if_pos (by rw[e2];omega),gq,gq,h0,h1];grind
 ·unfold tq
  rw[if_neg (by rw[e2];omega),gq,gq,gq,h0,h1];grind
theorem H5 {a b:Nat} (ha:a<=2) (hb:b<=2):wM (exM r) [(a:Int),(b:Int)] 2=tq (exM r) 0 a*tq (exM r) 1 b:=by
 have h1:=xt (m:=exM r) (h:=[(a:Int)]) (i:=1) (j:=b) rfl hb
 have h2:=xt (m:=exM r) (h:=[]) (i:=0) (j:=a) rfl ha
 have h1':wM (exM r) [(a:Int),(b:Int)] 2=wM (exM r) [(a:Int)] 1*tq (exM r) 1 b:=h1
 have h2':wM (exM r) [(a:Int)] 1=1*tq (exM r) 0 a:=h2
 rw[h1',h2']
 grind
theorem H7 {h:List Int}:cy (exM r) h=iL (λj=>FV (at' [⟨2,[⟨2,0,[0,1]⟩],2⟩,⟨2,[⟨3,0,[0,1]⟩],2⟩] (j:Int)) (oY h (j:Int))) 2:=rfl
theorem H6:hsL 2 2=[[0,0],[0,1],[0,2],[1,0],[1,1],[1,2],[2,0],[2,1],[2,2]]:=by decide
include hv in
theorem vI {G:List Int->Rat}:((hsL 2 2).map λh=>wM (exM r) h 2*G h).sum=1 / 4*G [0,0]+1 / 8*G [0,1]+1 / 8*G [0,2]+1 / 8*G [1,0]+1 / 16*G [1,1]+1 / 16*G [1,2]+1 / 8*G [2,0]+1 / 16*G [2,1]+1 / 16*G [2,2]:=by
 obtain⟨a0,a1,a2⟩:=FX hv (i:=0) om
 obtain⟨b0,b1,b2⟩:=FX hv (i:=1) om
 have t:∀a b:Nat,a<=2->b<=2->wM (exM r) [(a:Int),(b:Int)] 2=tq (exM r) 0 a*tq (exM r) 1 b:=λa b ha hb=>H5 ha hb
 have t00:wM (exM r) [0,0] 2=_:=t 0 0 om om
 have t01:wM (exM r) [0,1] 2=_:=t 0 1 om om
 have t02:wM (exM r) [0,2] 2=_:=t 0 2 om om
 have t10:wM (exM r) [1,0] 2=_:=t 1 0 om om
 have t11:wM (exM r) [1,1] 2=_:=t 1 1 om om
 have t12:wM (exM r) [1,2] 2=_:=t 1 2 om om
 have t20:wM (exM r) [2,0] 2=_:=t 2 0 om om
 have t21:wM (exM r) [2,1] 2=_:=t 2 1 om om
 have t22:wM (exM r) [2,2] 2=_:=t 2 2 om om
 rw[H6]
 simp only[map_cons,map_nil,sum_cons,sum_nil]
 rw[t00,t01,t02,t10,t11,t12,t20,t21,t22,a0,a1,a2,b0,b1,b2]
 grind
theorem H8:(cy (exM r) [0,0]=0/\cy (exM r) [0,1]=1/\cy (exM r) [0,2]=1)/\(cy (exM r) [1,0]=1/\cy (exM r) [1,1]=1/\cy (exM r) [1,2]=1)/\(cy (exM r) [2,0]=1/\cy (exM r) [2,1]=1/\cy (exM r) [2,2]=2):=by
 simp only[H7]
 decide +kernel
include hv in
theorem Fk:vH (exM r)=((15:Int):Rat) / ((16:Int):Rat):=by
 have h:=vI hv (G:=λh=>b2q (decide (cy (exM r) h<2)))
 obtain⟨⟨f1,f2,f3⟩,⟨f4,f5,f6⟩,f7,f8,f9⟩:=H8 (r:=r)
 rw[f1,f2,f3,f4,f5,f6,f7,f8,f9] at h
 have e:vH (exM r)=_:=h
 rw[e]
 decide +kernel
include hv in
theorem Fl:rJ (exM r) 0=((1:Int):Rat) / ((4:Int):Rat)/\rJ (exM r) 1=((11:Int):Rat) / ((16:Int):Rat):=by
 obtain⟨⟨f1,f2,f3⟩,⟨f4,f5,f6⟩,f7,f8,f9⟩:=H8 (r:=r)
 constructor
 ·have h:=vI hv (G:=λh=>b2q (decide (cy (exM r) h=0)))
  rw[f1,f2,f3,f4,f5,f6,f7,f8,f9] at h
  have e:rJ (exM r) 0=_:=h
  rw[e]
  decide +kernel
 ·have h:=vI hv (G:=λh=>b2q (decide (cy (exM r) h=1)))
  rw[f1,f2,f3,f4,f5,f6,f7,f8,f9] at h
  have e:rJ (exM r) 1=_:=h
  rw[e]
  decide +kernel
end
theorem ly {n d:Int} {Q:GRat->Prop} (hn:rng n) (hd:rng d) (h0:d≠0) (h:Q (a8 ((n:Rat) / (d:Rat)))):iu n d Q:=qR hn hd (λe=>absurd e h0) λ_=>h
theorem qa {Q:Bool->Prop} (h:Q true):j8 Q:=by
 have rg:∀n:Int,n.natAbs<64->rng n:=λn hn=>by unfold rng;omega
 have hr:Fr (a8 kx):=pi ry (by decide)
 have hv:bp (a8 kx)=kx:=iU _
 have hb:fW (a8 kx)=true:=by
  unfold fW
  rw[w6,hv]
  unfold kx
  decide +kernel
 have ex:∀ {Q:GMission->Prop},Q (exM (a8 kx))->iR Q:=λhQ=>ly (rg _ (by decide)) (rg _ (by decide)) (by decide) hQ
 have w:=H9 hr
 have f:=Ia hr hv
 have hm:=G8 hb
 have e9:((exM (a8 kx)).N.length+1)^(exM (a8 kx)).P.length=9:=rfl
 have el:(dK (exM (a8 kx))).length=5:=rfl
 obtain⟨q0,q1⟩:=Fl hv
 refine ex (pQ w f (λhne=>absurd hm hne) (λ_ hc=>by rw[e9] at hc;omega) (λ_=>.inl (by rw[e9];omega)) λ_ _=>ex (FJ w f (λhne=>absurd hm hne) (λ_ hl=>absurd hl (by rw[el];omega)) (λ_ _=>.inl (by rw[e9];omega)) λ_ _ hR=>?_))
 refine bg (λ_=>bg (λ_=>?_) (λhh=>by cases hh)) (λhh=>by cases hh)
 refine⟨_,ly (rg _ (by decide)) (rg _ (by decide)) (by decide) rfl,?_⟩
 rw[Fk hv] at hR ⊢
 refine⟨_,v6 hR.len.1 hR.len.2 rfl,?_⟩
 rw[decide_eq_true rfl]
 refine bg (λ_=>⟨_,ly (rg _ (by decide)) (rg _ (by decide)) (by decide) rfl,_,ly (rg _ (by decide)) (rg _ (by decide)) (by decide) rfl,?_⟩) (λhh=>by cases hh)
 have eo:q_ (exM (a8 kx)).N.length (rJ (exM (a8 kx)))=[a8 (((1:Int):Rat) / ((4:Int):Rat)),a8 (((11:Int):Rat) / ((16:Int):Rat))]:=by
  show [a8 (rJ (exM (a8 kx)) 0),a8 (rJ (exM (a8 kx)) 1)]=_
  rw[q0,q1]
 rw[eo]
 have b1:RB 129 (((1:Int):Rat) / ((4:Int):Rat)):=(pg (pf (n:=1) (k:=6) om (by decide)) (pf (n:=4) (k:=6) om (by decide))).mono om
 have b2:RB 129 (((11:Int):Rat) / ((16:Int):Rat)):=(pg (pf (n:=11) (k:=6) om (by decide)) (pf (n:=16) (k:=6) om (by decide))).mono om
 refine⟨true,o_ (by decide) (jU (Rp.of b1 (by decide)).len (Rp.of b2 (by decide)).len) rfl,h⟩
theorem ur {α:Type} {l:List α} {i:Int} (hi:0<=i):bf l 0 i=l.take i.toNat:=by simp[bf]
theorem HM {x:GRat} {Q:GRat->Prop} (h1:x.J.length<=1099511627776) (h2:x.L.length<=1099511627776) (h:Q x):na x Q:=by
 have cl:∀l:List Int,l.length<=1099511627776->cQ l λy=>y=l:=λl hl b hb=>by
  refine bg (λh=>(hb h).symm) (λ_=>⟨by simp;omega,by simp⟩)
 exact⟨_,cl _ h1,_,cl _ h2,h⟩
theorem zO {f:GFormula} {Q:GFormula->Prop} (g:FG f) (h:Q f):iq f Q:=by
 have cl:∀l:List Int,l.length<=1099511627776->fy l λy=>y=l:=λl hl b hb=>by
  refine bg (λh=>(hb h).symm) (λ_=>⟨by simp;omega,by simp⟩)
 have n128:=g.n128
 refine fR (n:=f.V.length) (λi=>((i:Int),f.V.take i)) (λy=>y.1) 0 (λi=>by simp) zSm (λi next hi hn=>?_) (λnext=>?_)
 ·have ll:=(gX (g.node i hi)).len
  refine condT (λ_=>⟨⟨om,om⟩,_,cl _ om,?_⟩) (λhc=>absurd (show(i:Int)<(f.V.length:Int) by omega) hc)
  show((f.V.take i++[at' f.V (i:Int)]).length*40<=_)/\rng _/\next ((i:Int)+1,f.V.take i++[at' f.V (i:Int)])
  rw[ib hi]
  exact⟨by rw[length_take];omega,zRg,hn⟩
 ·refine condT (λhc=>absurd hc om) (λ_=>?_)
  rw[take_length]
  exact h
section
variable {m:GMission}
variable {K:Nat}
end
section
variable {m:GMission} {K:Nat}
end
section
variable {m:GMission} {i:Nat}
end
structure BelowM (f:GFormula) (mark:List Bool):Prop where
 top:at' mark f.F=true
 args:∀t:Nat,t<f.V.length->at' mark (f.A+t)=true->∀j:Nat,j<(at' f.V (t:Int)).M.length->at' mark (at' (at' f.V (t:Int)).M (j:Int))=true
section
variable {m:GMission} {i:Nat}
end
def mB (s p:Rat):Rat:=if s*p=1 then 0 else (p-s*p) / (1-s*p)
def dI (s:Rat) (j:Nat) (l:List GRat):List GRat:=l.take j++a8 (s*bp (at' l (j:Int))) :: a8 (mB s (bp (at' l (j:Int)))) :: l.drop (j+1)
def Cn (m:GMission) (j:Nat) (s:Rat):GMission:=⟨m.N.take j++at' m.N (j:Int) :: m.N.drop j,m.P.map (dI s j)⟩
section
variable {α:Type} [Inhabited α] {l:List α} {j:Nat}
theorem Ho {x:α} (hj:j<=l.length) {t:Nat}:at' (l.take j++x :: l.drop j) (t:Int)=if t<j then at' l (t:Int) else if t=j then x else at' l ((t-1:Nat):Int):=by
 have h1:(l.take j).length=j:=by rw[length_take];omega
 simp only[at',toNat_natCast,List.getD_eq_getElem?_getD,List.getElem?_append,h1]
 split
 ·rw[List.getElem?_take_of_lt (by assumption)]
 ·split
  ·subst t;simp
  ·obtain⟨u,rfl⟩:∃u,t=j+1+u:=⟨t-(j+1),om⟩
   rw[show j+1+u-j=u+1 by omega,List.getElem?_cons_succ,List.getElem?_drop,show j+1+u-1=j+u by omega]
theorem Fw {x y:α} (hj:j<l.length) {t:Nat}:at' (l.take j++x :: y :: l.drop (j+1)) (t:Int)=if t<j then at' l (t:Int) else if t=j then x else if t=j+1 then y else at' l ((t-1:Nat):Int):=by
 have h1:(l.take j).length=j:=by rw[length_take];omega
 simp only[at',toNat_natCast,List.getD_eq_getElem?_getD,List.getElem?_append,h1]
 split
 ·rw[List.getElem?_take_of_lt (by assumption)]
 ·split
  ·subst t;simp
  ·split
   ·subst t;simp
   ·obtain⟨u,rfl⟩:∃u,t=j+2+u:=⟨t-(j+2),om⟩
    rw[show j+2+u-j=u+1+1 by omega,List.getElem?_cons_succ,List.getElem?_cons_succ,List.getElem?_drop,show j+2+u-1=j+1+u by omega]
end
section
variable {m:GMission} {j:Nat} {s:Rat}
theorem G5 (hj:j<m.N.length):(Cn m j s).N.length=m.N.length+1:=by
 show(m.N.take j++_ :: m.N.drop j).length=_
 rw[length_append,length_cons,length_take,length_drop];omega
theorem H4:(Cn m j s).P.length=m.P.length:=length_map ..
theorem H3 (hj:j<m.N.length) {t:Nat}:at' (Cn m j s).N (t:Int)=at' m.N ((if t<=j then t else t-1:Nat):Int):=by
 show at' (m.N.take j++_ :: m.N.drop j) _=_
 rw[Ho om]
 by_cases h1:t<j
 ·rw[if_pos h1,if_pos om]
 ·rw[if_neg h1]
  by_cases h2:t=j
  ·rw[if_pos h2,if_pos om,h2]
  ·rw[if_neg h2,if_neg om]
theorem G4 {i:Nat} (hi:i<m.P.length):at' (Cn m j s).P (i:Int)=dI s j (at' m.P (i:Int)):=pd (g:=dI s j) hi
theorem DR {l:List GRat} (hj:j<l.length):(dI s j l).length=l.length+1:=by
 unfold dI
 rw[length_append,length_cons,length_cons,length_take,length_drop];omega
theorem H2 {l:List GRat} (hj:j<l.length) {t:Nat}:at' (dI s j l) (t:Int)=if t<j then at' l (t:Int) else if t=j then a8 (s*bp (at' l (j:Int))) else if t=j+1 then a8 (mB s (bp (at' l (j:Int)))) else at' l ((t-1:Nat):Int):=by
 unfold dI
 exact Fw hj
end
theorem Fx {α:Type} [Inhabited α] {l l':List α} (hl:l.length=l'.length) (h:∀t:Nat,t<l'.length->at' l (t:Int)=at' l' (t:Int)):l=l':=List.ext_getElem hl λt h1 h2=>by
 have:=h t h2
 simpa[at',List.getD_eq_getElem?_getD,h1,h2] using this
section
variable {m:GMission} {share:GRat}
theorem Bb {j:Int} {Q:Option Int->Prop} (w:WrM m) (hf:FrM m) (h1:ge m≠0->Q (some (ge m))) (h10:ge m=0->j<0\/(m.N.length:Int)<=j->Q (some 10)) (h2:ge m=0->∀i:Nat,j=i->i<m.N.length->Q none):iQ m j Q:=by
 refine jt w hf ?_
 rw[ee]
 refine condT (λhe=>by rw[pG he];exact h1 he) (λhe=>?_)
 have he:=Classical.not_not.1 he
 refine⟨λy=>y=true↔j<0\/(m.N.length:Int)<=j,condT (λhc=>by simp[hc]) (λhc=>by simp[hc]),λy hy=>bg (λhb=>h10 he (hy.1 hb)) (λhb=>?_)⟩
 have hj:¬(j<0\/(m.N.length:Int)<=j):=λhc=>by rw[hy.2 hc] at hb;cases hb
 exact h2 he j.toNat om om
theorem Eu {Q:List GFormula->List (List GRat)->Prop} (w:WrM m) (hf:FrM m) (he:ge m=0) (h:Q m.N m.P):gd m ((m.N.length:Int)-1) Q:=by
 have o:=okM w hf he
 have hk6:=o.k6
 have k0:=o.k0
 have hp:=o.p24
 refine Bb w hf (λhne=>absurd he hne) (λ_ hc=>absurd hc om) (λ_ _ _ _=>bg (λhc=>by cases hc) (λ_=>?_))
 have e0:(m.N.length:Int)-1+1=(m.N.length:Int):=om
 have hs:∀ {α:Type} {l:List α},l.length=m.N.length->bf l 0 ((m.N.length:Int)-1+1)=l:=λ{α l} hl=>by rw[e0,ur om,toNat_natCast,take_of_length_le om]
 rw[hs rfl]
 refine⟨zRg,⟨om,om,om⟩,?_⟩
 refine fR (n:=m.N.length) (λa=>((a:Int),m.N.take a)) (λy=>y.1) 0 (λa=>by simp) zSm (λa next ha hn=>?_) (λnext=>?_)
 ·refine condT (λ_=>⟨⟨om,om⟩,_,zO (o.fg a ha).1 rfl,?_⟩) (λhc=>absurd (show(a:Int)<(m.N.length:Int) by omega) hc)
  dsimp only
  rw[ib ha]
  exact⟨by rw[length_take];omega,zRg,hn⟩
 refine condT (λhc=>absurd hc om) (λ_=>?_)
 rw[take_length]
 refine fR (n:=m.P.length) (λa=>((a:Int),m.P.take a)) (λy=>y.1) 0 (λa=>by simp) zSm (λa next2 ha hn2=>?_) (λnext2=>?_)
 ·have dI:=o.row a ha
  refine condT (λ_=>⟨⟨om,om⟩,zRg,⟨om,om,om⟩,?_⟩) (λhc=>absurd (show(a:Int)<(m.P.length:Int) by omega) hc)
  rw[hs dI]
  refine fR (n:=m.N.length) (λb=>((b:Int),(at' m.P (a:Int)).take b)) (λy=>y.1) 0 (λb=>by simp) zSm (λb next3 hb hn3=>?_) (λnext3=>?_)
  ·have hR:=o.pRp (i:=a) (j:=b) ha hb
   refine condT (λ_=>⟨⟨om,om⟩,HM hR.len.1 hR.len.2 ?_⟩) (λhc=>absurd (show(b:Int)<((at' m.P (a:Int)).length:Int) by omega) hc)
   rw[ib om]
   exact⟨by rw[length_take];omega,zRg,hn3⟩
  ·refine condT (λhc=>absurd hc om) (λ_=>?_)
   rw[take_of_length_le (l:=at' m.P (a:Int)) om,ib ha]
   exact⟨by rw[length_take];omega,zRg,hn2⟩
 ·refine condT (λhc=>absurd hc om) (λ_=>?_)
  rw[take_length]
  exact h
def zC (m:GMission) (j:Int) (share:GRat):Int:=if j<0\/(m.N.length:Int)<=j then 10 else if fW share=false then 3 else if m.N.length=6\/24<m.P.length*(m.N.length+1) then 4 else 0
theorem Fe {l:List GRat} {i:Nat} {q r:GRat} (hi:i<l.length):fj (bu l (i:Int) r) (i:Int) [q]=l.take i++q :: r :: l.drop (i+1):=by
 have h1:(l.take i).length=i:=by rw[length_take];omega
 unfold fj bu
 rw[toNat_natCast,List.set_eq_take_append_cons_drop,if_pos hi,List.take_append,h1,take_of_length_le om,Nat.sub_self,List.take_zero,List.append_nil,List.drop_append,h1,List.drop_of_length_le om,Nat.sub_self]
 simp
theorem yW {s p:Rat} (h:((1:Int):Rat)-s*p=0):mB s p=0:=if_pos (by
 have:((1:Int):Rat)=1:=rfl
 grind)
theorem A7 {s p:Rat} (h:((1:Int):Rat)-s*p≠0):(p-s*p) / (((1:Int):Rat)-s*p)=mB s p:=by
 have e:((1:Int):Rat)=1:=rfl
 rw[e] at h ⊢
 exact(if_neg (by grind)).symm
theorem FH {j:Int} {Q:GMission->Option Int->Prop} (w:WrM m) (hf:FrM m) (hs:Rp 129 share (bp share)) (h1:ge m≠0->Q ⟨[],[]⟩ (some (ge m))) (h2:ge m=0->zC m j share≠0->Q ⟨[],[]⟩ (some (zC m j share)))
  (h3:ge m=0->zC m j share=0->∀i:Nat,j=i->i<m.N.length->Q (Cn m i (bp share)) none):kN m j share Q:=by
 refine Bb w hf (λhe=>bg (λ_=>h1 he) (λhc=>by cases hc)) (λhe hj=>bg (λ_=>?_) (λhc=>by cases hc)) (λhe i hi hi2=>bg (λhc=>by cases hc) (λ_=>?_))
 ·have e:zC m j share=10:=if_pos hj
  rw[e] at h2
  exact h2 he (by decide)
 have o:=okM w hf he
 have hk6:=o.k6
 have hp:=o.p24
 have k0:=o.k0
 have h2:=h2 he
 have h3:=h3 he
 subst hi
 unfold zC at h2 h3
 rw[if_neg om] at h2 h3
 refine⟨zRg,kI hs.1 ?_⟩
 cases hb:fW share with
 | false=>
  rw[if_pos hb] at h2
  exact bg (λ_=>h2 (by decide)) (λhc=>by cases hc)
 | true=>
 rw[if_neg (by rw[hb];decide)] at h2 h3
 refine bg (λhc=>by cases hc) (λ_=>?_)
 have e24:((m.N.length:Int)+1)*(m.P.length:Int)=((m.P.length*(m.N.length+1):Nat):Int):=by rw[Int.natCast_mul,Int.mul_comm];simp
 have b24:m.P.length*(m.N.length+1)<=24*7:=Nat.mul_le_mul hp om
 refine⟨λy=>y=true↔m.N.length=6\/24<m.P.length*(m.N.length+1),condT (λhc=>?_) (λhc=>⟨by rw[e24];unfold rng;omega,?_⟩),λy hy=>bg (λhb2=>?_) (λhb2=>?_)⟩
 ·exact⟨λ_=>.inl om,λ_=>rfl⟩
 ·rw[e24]
  simp only[decide_eq_true_eq]
  omega
 ·rw[if_pos (hy.1 hb2)] at h2
  exact h2 (by decide)
 rw[if_neg (λhc=>by rw[hy.2 hc] at hb2;cases hb2)] at h3
 have h3:=h3 rfl i rfl hi2
 refine⟨zRg,Eu w hf he ⟨⟨om,om⟩,_,zO (o.fg i hi2).1 rfl,⟨om,om⟩,by rw[length_singleton];omega,GI zRg λh1p=>?_⟩⟩
 refine ey (n:=m.P.length) (λa (y:Int×List (List GRat))=>y.1=(a:Int)/\y.2.length=m.P.length/\∀t:Nat,t<m.P.length->at' y.2 (t:Int)=if t<a then dI (bp share) i (at' m.P (t:Int)) else at' m.P (t:Int)) (λy=>y.1) 0 (λa y h=>by rw[h.1];simp) ⟨rfl,rfl,λt _=>by rw[if_neg om]⟩ ?_ ?_
 ·rintro a ⟨y1,y2⟩ next ha ⟨hy1,hyl,hya⟩ hn
  dsimp only at hy1 hyl hya
  subst hy1
  have hl:=o.row a ha
  have hR:=o.pRp (i:=a) (j:=i) ha hi2
  have dI:at' y2 (a:Int)=at' m.P (a:Int):=by rw[hya a ha,if_neg om]
  refine condT (λ_=>⟨⟨om,om⟩,?_⟩) (λhc=>absurd (show(a:Int)<(m.P.length:Int) by omega) hc)
  rw[dI]
  refine⟨⟨om,om⟩,Aj hs hR (by decide) λhq=>⟨⟨om,om⟩,z8 hR hq (by decide) λh6=>z8 h1p hq (by decide) λh7=>?_⟩⟩
  have fin:∀r8:GRat,∀r9:Option Int,(if isSome r9=true then (⟨false,[],[]⟩:GRat) else r8)=a8 (mB (bp share) (pq m a i))->df (α:=GRat) (λnext2=>aq (isSome r9) (next2 (⟨false,[],[]⟩:GRat)) (next2 r8)) λx3=>
    ((0:Int)<=(i:Int)/\(i:Int)<((at' m.P (a:Int)).length:Int))/\((0:Int)<=(i:Int)/\(i:Int)<=((bu (at' m.P (a:Int)) (i:Int) x3).length:Int))/\(((bu (at' m.P (a:Int)) (i:Int) x3).length + [a8 (bp share*pq m a i)].length)*56<=140737488355328)/\
    ((0:Int)<=(a:Int)/\(a:Int)<(y2.length:Int))/\rng ((a:Int)+1)/\next (((a:Int)+1),(bu y2 (a:Int) (fj (bu (at' m.P (a:Int)) (i:Int) x3) (i:Int) [a8 (bp share*pq m a i)]))):=λr8 r9 hr=>by
   refine⟨λy=>y=a8 (mB (bp share) (pq m a i)),bg (λhc=>by rw[if_pos hc] at hr;exact hr) (λhc=>by rw[if_neg (by rw[hc];decide)] at hr;exact hr),?_⟩
   rintro _ rfl
   rw[Fe om]
   refine⟨⟨om,om⟩,⟨om,by rw[eu];omega⟩,by rw[eu,length_singleton];omega,⟨om,om⟩,zRg,hn _ ⟨by simp,by rw[eu];exact hyl,λt ht=>?_⟩⟩
   dsimp only
   rw[jY om]
   by_cases h8:t=a
   ·subst h8
    rw[if_pos rfl,if_pos om];rfl
   ·rw[if_neg h8,hya t ht]
    by_cases h9:t<a
    ·rw[if_pos h9,if_pos om]
    ·rw[if_neg h9,if_neg om]
  by_cases h0:((1:Int):Rat)-bp share*pq m a i=0
  ·exact⟨a8 0,some 8,FY h6 h7 (by decide) (λ_=>⟨rfl,rfl⟩) (λhne=>absurd h0 hne),fin _ _ (by rw[yW h0];exact(if_pos rfl).trans rfl)⟩
  ·exact Hc h6 h7 (by decide) h0 λ_=>fin _ _ (by rw[if_neg (by decide),A7 h0])
 ·rintro⟨y1,y2⟩ next ⟨hy1,hyl,hya⟩
  dsimp only at hy1 hyl hya
  subst hy1
  refine condT (λhc=>absurd hc om) (λ_=>?_)
  have e:y2=m.P.map (dI (bp share) i):=Fx (by rw[hyl,length_map]) λt ht=>by
   rw[length_map] at ht
   rw[hya t ht,if_pos ht,pd (g:=dI (bp share) i) ht]
  have e2:fj m.N (i:Int) [at' m.N (i:Int)]=m.N.take i++at' m.N (i:Int) :: m.N.drop i:=by unfold fj;simp
  rw[e,e2]
  exact h3
theorem wo {i:Nat} {Q:GMission->Prop} (o:OkM m) (hs:Rp 129 share (bp share)) (hi:i<m.N.length) (h:Q (Cn m i (bp share))):j0 m (i:Int) share Q:=by
 have hk6:=o.k6
 have hp:=o.p24
 have s1:bf m.N 0 ((i:Int)+1)=m.N.take (i+1):=by rw[ur om];rfl
 have s2:∀ {α:Type} {l:List α} {a:Nat},bf l (a:Int) (l.length:Int)=l.drop a:=λ{α l a}=>by
  simp only[bf,toNat_natCast]
  exact take_of_length_le (by rw[length_drop];omega)
 have hph:bf m.N 0 ((i:Int)+1)++bf m.N (i:Int) (m.N.length:Int)=m.N.take i++at' m.N (i:Int) :: m.N.drop i:=by rw[s1,s2,<-ib hi,append_assoc];rfl
 rw[j0,hph,s1]
 refine⟨zRg,⟨om,om,om⟩,by rw[length_take];omega,⟨om,om,om⟩,by rw[length_append,length_cons,length_take,length_drop];omega,Iz zRg λh1p=>?_⟩
 refine fR (n:=m.P.length) (λa=>((a:Int),(m.P.map (dI (bp share) i)).take a)) (λy=>y.1) 0 (λa=>by simp) zSm (λa next ha hn=>?_) (λnext=>?_)
 ·have hl:=o.row a ha
  have hR:=o.pRp (i:=a) (j:=i) ha hi
  refine condT (λ_=>⟨⟨om,om⟩,⟨om,om⟩,GQ hs hR (by decide) λhq=>?_⟩) (λhc=>absurd (show(a:Int)<(m.P.length:Int) by omega) hc)
  refine⟨λy=>y=a8 (mB (bp share) (pq m a i)),FZ hq h1p (by decide) (dg (λhne=>?_) (λhe=>?_)),?_⟩
  ·have hne:((1:Int):Rat)-bp share*pq m a i≠0:=λhc=>hne (xH.2 (by
    have:bp share*pq m a i-((1:Int):Rat)=0:=by grind
    exact this))
   refine⟨⟨om,om⟩,⟨om,om⟩,C6 hR hq (by decide) λh6=>C6 h1p hq (by decide) λh7=>Hb h6 h7 (by decide) hne λ_=>?_⟩
   exact congrArg a8 (A7 hne)
  ·have h0:bp share*pq m a i-((1:Int):Rat)=0:=xH.1 he
   rw[yW (by grind)];rfl
  ·rintro _ rfl
   have e3:bf (at' m.P (a:Int)) 0 (i:Int)=(at' m.P (a:Int)).take i:=by rw[ur om];rfl
   have e4:bf (at' m.P (a:Int)) ((i:Int)+1) ((at' m.P (a:Int)).length:Int)=(at' m.P (a:Int)).drop (i+1):=s2 (a:=i+1)
   have e5:(at' m.P (a:Int)).take i++[a8 (bp share*pq m a i),a8 (mB (bp share) (pq m a i))]++(at' m.P (a:Int)).drop (i+1)=at' (m.P.map (dI (bp share) i)) (a:Int):=by rw[pd (g:=dI (bp share) i) ha,append_assoc];rfl
   have e6:(at' (m.P.map (dI (bp share) i)) (a:Int)).length=m.N.length+1:=by rw[pd (g:=dI (bp share) i) ha,DR om,hl]
   show((0:Int)<=(a:Int)/\_)/\_/\((bf (at' m.P (a:Int)) 0 (i:Int)).length*56<=_)/\((bf (at' m.P (a:Int)) 0 (i:Int)++[a8 (bp share*pq m a i),a8 (mB (bp share) (pq m a i))]).length*56<=_)/\_/\_/\_/\((bf (at' m.P (a:Int)) 0 (i:Int)++[a8 (bp share*pq m a i),a8 (mB (bp share) (pq m a i))]++bf (at' m.P (a:Int)) ((i:Int)+1) ((at' m.P (a:Int)).length:Int)).length*56<=_)/\(((m.P.map (dI (bp share) i)).take a++[bf (at' m.P (a:Int)) 0 (i:Int)++[a8 (bp share*pq m a i),a8 (mB (bp share) (pq m a i))]++bf (at' m.P (a:Int)) ((i:Int)+1) ((at' m.P (a:Int)).length:Int)]).length*24<=_)/\_/\next (_,(m.P.map (dI (bp share) i)).take a++[bf (at' m.P (a:Int)) 0 (i:Int)++[a8 (bp share*pq m a i),a8 (mB (bp share) (pq m a i))]++bf (at' m.P (a:Int)) ((i:Int)+1) ((at' m.P (a:Int)).length:Int)])
   rw[e3,e4,e5,e6,ib (by rw[length_map];exact ha)]
   refine⟨⟨om,om⟩,⟨om,om,om⟩,by rw[length_take];omega,by rw[length_append,length_take];simp only[length_cons,List.length_nil];omega,⟨om,om⟩,zRg,⟨om,om,om⟩,om,by rw[length_take,length_map];omega,zRg,hn⟩
 ·refine condT (λhc=>absurd hc om) (λ_=>?_)
  rw[take_of_length_le (l:=m.P.map (dI (bp share) i)) (by rw[length_map];omega)]
  exact h
theorem rV {j:Int} {Q:Int->Prop} (o:OkM m) (hs:Rp 129 share (bp share)) (h:Q (zC m j share)):iV m j share Q:=by
 have hk6:=o.k6
 have hp:=o.p24
 have ev:=o.ev
 unfold zC at h
 refine condT (λhc=>by rw[if_pos (.inl hc)] at h;exact h) (λh1=>condT (λhc=>by rw[if_pos (.inr hc)] at h;exact h) (λh2=>qP hs.1 hs.2.2 (by decide) ?_))
 rw[if_neg om] at h
 cases hb:fW share with
 | false=>
  rw[if_pos hb] at h
  exact bg (λ_=>h) (λhc=>by cases hc)
 | true=>
 rw[if_neg (by rw[hb];decide)] at h
 refine bg (λhc=>by cases hc) (λ_=>bV (λh6=>?_) (λh6=>⟨_,jo o.k0 rfl,zRg,?_⟩))
 ·rw[if_pos (.inl om)] at h;exact h
 have e24:evt m*((m.N.length:Int)+1)=((m.P.length*(m.N.length+1):Nat):Int):=by rw[<-ev,Int.natCast_mul];simp
 have b24:m.P.length*(m.N.length+1)<=24*7:=Nat.mul_le_mul hp om
 rw[e24]
 refine⟨zRg,condT (λhc=>?_) (λhc=>?_)⟩
 ·rw[if_pos (.inr om)] at h;exact h
 ·rw[if_neg om] at h;exact h
end
theorem v7 {a:List Int} {Q:Bool->Prop} (la:a.length<=9223372036854775807) (h:Q true):pb a a Q:=by
 refine dg (λhh=>absurd rfl hh) λ_=>kn (n:=a.length) (λ_=>False) la (λi next hi _ hnx=>⟨⟨om,om⟩,⟨om,om⟩,dg (λhh=>absurd rfl hh) λ_=>hnx id⟩) (λ_=>h)
theorem rN {f:GFormula} {Q:Bool->Prop} (lf:f.V.length<=9223372036854775807) (la:∀i:Nat,i<f.V.length->(at' f.V (i:Int)).M.length<=9223372036854775807) (h:Q true):ml f f Q:=by
 refine dg (λhh=>absurd rfl hh) λ_=>dg (λhh=>absurd rfl hh) λ_=>dg (λhh=>absurd rfl hh) λ_=>kn (n:=f.V.length) (λ_=>False) lf (λi next hi _ hnx=>?_) (λ_=>h)
 have hb:(0:Int)<=(i:Int)/\(i:Int)<(f.V.length:Int):=⟨om,om⟩
 exact⟨hb,hb,dg (λhh=>absurd rfl hh) λ_=>⟨hb,hb,dg (λhh=>absurd rfl hh) λ_=>⟨hb,hb,true,v7 (la i hi) rfl,bg (λhh=>by cases hh) λ_=>hnx id⟩⟩⟩
theorem p_ {a:GMission} {Q:Bool->Prop} (lf:a.N.length<=9223372036854775807) (lp:a.P.length<=9223372036854775807) (hf:∀j:Nat,j<a.N.length->(at' a.N (j:Int)).V.length<=9223372036854775807/\∀t:Nat,t<(at' a.N (j:Int)).V.length->(at' (at' a.N (j:Int)).V (t:Int)).M.length<=9223372036854775807)
  (hr:∀i:Nat,i<a.P.length->(at' a.P (i:Int)).length<=1099511627776/\∀j:Nat,j<(at' a.P (i:Int)).length->(at' (at' a.P (i:Int)) (j:Int)).J.length<=1099511627776/\(at' (at' a.P (i:Int)) (j:Int)).L.length<=1099511627776) (h:Q true):jx a a Q:=by
 refine dg (λhc=>absurd rfl hc) λ_=>dg (λhc=>absurd rfl hc) λ_=>?_
 refine kn (λ_=>False) lf (λj next hj _ hnx=>?_) (λ_=>kn (λ_=>False) lp (λi next hi _ hnx=>?_) (λ_=>h))
 ·have hb:(0:Int)<=(j:Int)/\(j:Int)<(a.N.length:Int):=⟨om,om⟩
  exact⟨hb,hb,true,rN (hf j hj).1 (hf j hj).2 rfl,bg (λhc=>by cases hc) λ_=>hnx id⟩
 ·have hb:(0:Int)<=(i:Int)/\(i:Int)<(a.P.length:Int):=⟨om,om⟩
  exact⟨hb,hb,true,o_ (hr i hi).1 (hr i hi).2 rfl,bg (λhc=>by cases hc) λ_=>hnx id⟩
theorem ox {m:GMission} {j:Int} {share:GRat} {Q:Bool->Prop} (w:WrM m) (ws:WrR share) (h:Q true):jL m j share Q:=by
 refine⟨λy=>y=false->FrM m/\share.J.length<=4/\share.L.length<=4,?_,?_⟩
 ·refine qa (bg (λhh=>by cases hh) λ_=>wG w λb hb=>bg (λ_ hc=>by cases hc) λhb2=>condT (λ_ hc=>by cases hc) λh1 h2=>⟨(hb hb2).1,om,?_⟩)
  have:=of_decide_eq_false h2
  omega
 intro y hy
 refine bg (λ_=>qa h) λhf=>?_
 obtain⟨f,hn,hd⟩:=hy hf
 have hs:Rp 129 share (bp share):=.self ⟨ws.1,ws.2,om,om⟩ ((BQ ws.1 ws.2 (m:=4) om om).mono om)
 have bad:∀e:Int,e≠0->jx (⟨[],[]⟩:GMission) (⟨[],[]⟩:GMission) λr3=>aq r3 (n9 (some e) λr4=>Q (r4 == e)) (Q false):=λe he=>p_ zSm zSm (λj hj=>absurd hj zSm) (λi hi=>absurd hi zSm) (bg (λ_=>by
  rw[<-pG he]
  exact AE (by rw[beq_self_eq_true];exact h)) (λhc=>by cases hc))
 refine FH w f hs (λhe=>?_) (λhe hh=>?_) (λhe hh i hi hi2=>?_)
 ·refine j2 w f ⟨λc=>c=ge m,bV (λh0=>absurd h0 he) (λ_=>rfl),?_⟩
  rintro _ rfl
  exact dg (λ_=>bad _ he) (λhc=>absurd hc he)
 ·have o:=okM w f he
  refine j2 w f ⟨λc=>c=zC m j share,bV (λ_=>rV o hs rfl) (λh0=>absurd he h0),?_⟩
  rintro _ rfl
  exact dg (λ_=>bad _ hh) (λhc=>absurd hc hh)
 ·have o:=okM w f he
  have k6:=o.k6
  have p24:=o.p24
  refine j2 w f ⟨λc=>c=0,bV (λ_=>rV o hs hh) (λh0=>absurd he h0),?_⟩
  rintro _ rfl
  subst hi
  have hl:=G5 (m:=m) (s:=bp share) hi2
  refine dg (λhc=>absurd rfl hc) (λ_=>bg (λ_=>⟨_,wo o hs hi2 rfl,true,p_ om (by rw[H4];omega) (λt ht=>?_) (λa ha=>?_) rfl,h⟩) (λhc=>by cases hc))
  ·rw[H3 hi2]
   have g:=(o.fg (if t<=i then t else t-1) (by split<;>omega)).1
   have:=g.n128
   exact⟨om,λu hu=>by have:=(gX (g.node u hu)).len;omega⟩
  ·rw[H4] at ha
   have hr:=o.row a ha
   rw[G4 ha,DR om]
   refine⟨om,λb hb=>?_⟩
   have hR:=o.pRp ha hi2
   have hq:=qC hs.2.2 hR.2.2
   rw[H2 om]
   split
   ·exact(o.pRp ha om).len
   ·split
    ·exact(Rp.of (k:=258) (qC hs.2.2 (o.pRp ha hi2).2.2) (by decide)).len
    ·split
     ·refine(Rp.of (k:=1000) ?_ (by decide)).len
      show RB 1000 (mB (bp share) (pq m a i))
      unfold mB
      split
      ·exact uc 1000 om
      ·have b1:RB 1 (1:Rat):=pf (n:=1) om (by decide)
       exact(pg (qB hR.2.2 hq) (qB b1 hq)).mono om
     ·exact(o.pRp ha om).len
end Go.Gg
