/- Tables of nodes: the program's functions that make nodes and choose. Conditions: none. -/
import Derived.Test.YtnjgdkfhgmebjaaGreatMa
import Derived.Test.YtnjgdkfhgmebjaaGreatWa
namespace Go.Gg
structure TS (o place:List Int) (nodes:List GDNode) (unique memo:GMap Int):Prop where
 ord:Or14 o
 pl:place.length=o.length
 pl2:∀v:Nat,v<o.length->at' place (v:Int)=(di o v:Int)
 tb:TB o.length (di o) nodes unique memo
abbrev lvO (o:List Int) (nodes:List GDNode) (r:Int):Nat:=lvl o.length (di o) nodes r.toNat
section
variable {o place:List Int} {nodes:List GDNode} {unique memo:GMap Int}
theorem TS.wt (h:TS o place nodes unique memo):WT o.length (di o) nodes:=h.tb.wt
theorem TS.at (h:TS o place nodes unique memo) {r:Int} (hr:Vd nodes r) (h2:2<=r):nodes[(r-2).toNat]? = some (at' nodes (r-2))/\(0<=(at' nodes (r-2)).Var/\(at' nodes (r-2)).Var<o.length)/\(0<=(at' nodes (r-2)).Lo/\(at' nodes (r-2)).Lo<r)/\(0<=(at' nodes (r-2)).Hi/\(at' nodes (r-2)).Hi<r)/\
  lvO o nodes r=di o (at' nodes (r-2)).Var.toNat/\lvO o nodes r<lvO o nodes (at' nodes (r-2)).Lo/\lvO o nodes r<lvO o nodes (at' nodes (r-2)).Hi:=by
 have h0:=hr.1
 have h1:=hr.2
 have hx:=DN (N:=nodes) (i:=(r-2).toNat) om
 rw [show (((r-2).toNat:Nat):Int)=r-2 by omega] at hx
 obtain ⟨a,b,c,d,e,f⟩:=h.wt.nd _ _ hx
 have hl:lvO o nodes r=di o (at' nodes (r-2)).Var.toNat:=by
  have:=nJ (n:=o.length) (lev:=di o) hx
  rw [show 2+(r-2).toNat=r.toNat by omega] at this
  exact this
 exact ⟨hx,a,⟨by omega,by omega⟩,⟨by omega,by omega⟩,hl,by rw [hl];exact e,by rw [hl];exact f⟩
theorem tT (h:TS o place nodes unique memo) (hb:nodes.length<=1099511627776) {r:Int} (hr:Vd nodes r) {Q:Int->Prop} (hQ:Q (lvO o nodes r:Int)):bw r o place nodes unique memo Q:=by
 have h0:=hr.1
 have h1:=hr.2
 refine condT (λh2=>?_) (λh2=>?_)
 ·rw [show lvO o nodes r=o.length from iC om] at hQ;exact hQ
 ·obtain ⟨_,a,_,_,e,_,_⟩:=h.at hr om
  have hp:=h.pl
  have:=h.pl2 (at' nodes (r-2)).Var.toNat om
  rw [show (((at' nodes (r-2)).Var.toNat:Nat):Int)=(at' nodes (r-2)).Var by omega] at this
  refine ⟨by unfold rng;omega,⟨by omega,by omega⟩,⟨by omega,by omega⟩,?_⟩
  rw [this,<-e]
  exact hQ
def kid (o:List Int) (nodes:List GDNode) (r:Int) (L:Nat) (b:Bool):Int:=if lvO o nodes r=L then (bif b then (at' nodes (r-2)).Hi else (at' nodes (r-2)).Lo) else r
theorem Ap (h:TS o place nodes unique memo) (hb:nodes.length<=1099511627776) {r:Int} (hr:Vd nodes r) {L:Nat} (hL:L<o.length) {Q:Int->Int->Prop} (hQ:Q (kid o nodes r L false) (kid o nodes r L true)):bK r (L:Int) o place nodes unique memo Q:=by
 have h0:=hr.1
 have h1:=hr.2
 refine tT h hb hr (e_ (λhc=>?_) (λhc=>?_))
 ·rw [kid,kid,if_neg om,if_neg om] at hQ;exact hQ
 ·have h2:2<=r:=by
   by_cases h2:r<2
   ·rw [show lvO o nodes r=o.length from iC om] at hc;omega
   ·omega
  rw [kid,kid,if_pos om,if_pos om] at hQ
  exact ⟨by unfold rng;omega,⟨by omega,by omega⟩,hQ⟩
theorem Gq (h:TS o place nodes unique memo) {r:Int} (hr:Vd nodes r) {L:Nat} (hL:L<o.length) (b:Bool):Vd nodes (kid o nodes r L b):=by
 have h0:=hr.1
 have h1:=hr.2
 unfold kid
 split
 ·rename_i hc
  have h2:2<=r:=by
   by_cases h2:r<2
   ·rw [show lvO o nodes r=o.length from iC om] at hc;omega
   ·omega
  obtain ⟨_,_,c,d,_⟩:=h.at hr h2
  cases b
  ·exact ⟨c.1,by simp only [cond_false];omega⟩
  ·exact ⟨d.1,by simp only [cond_true];omega⟩
 ·exact hr
theorem EJ (h:TS o place nodes unique memo) {r:Int} (hr:Vd nodes r) {L:Nat} (hL:L<o.length) (hLr:L<=lvO o nodes r) (b:Bool):L+1<=lvO o nodes (kid o nodes r L b):=by
 have h0:=hr.1
 have h1:=hr.2
 unfold kid
 split
 ·rename_i hc
  have h2:2<=r:=by
   by_cases h2:r<2
   ·rw [show lvO o nodes r=o.length from iC om] at hc;omega
   ·omega
  obtain ⟨_,_,_,_,_,f,g⟩:=h.at hr h2
  cases b
  ·simp only [cond_false];omega
  ·simp only [cond_true];omega
 ·rename_i hc;omega
theorem Gr (h:TS o place nodes unique memo) {r:Int} (hr:Vd nodes r) {v:Nat} (hv:v<o.length) (hLr:di o v<=lvO o nodes r) (b:Bool) (σ:Asg):dn nodes (kid o nodes r (di o v) b) σ=dn nodes r (cq σ v b):=by
 have h0:=hr.1
 have h1:=hr.2
 have hlv:=(h.ord.at_lev hv).1
 unfold kid
 split
 ·rename_i hc
  have h2:2<=r:=by
   by_cases h2:r<2
   ·rw [show lvO o nodes r=o.length from iC om] at hc;omega
   ·omega
  obtain ⟨hx,a,c,d,e,_,_⟩:=h.at hr h2
  have hvv:(at' nodes (r-2)).Var.toNat=v:=h.ord.ord.lv.inj _ _ om hv om
  have:=h.wt.den_cof hx σ b
  rw [hvv,show 2+(r-2).toNat=r.toNat by omega] at this
  unfold dn
  rw [this]
  cases b<;>rfl
 ·rename_i hc
  exact (h.wt.den_set h1 (by show di o v<lvO o nodes r;omega) σ).symm
theorem EZ {a b:Int}:(a == b)=decide (a=b):=by rw [Bool.eq_iff_iff];simp
theorem FSx (h:TS o place nodes unique memo) {r:Int} (hr:Vd nodes r) {l:Nat} (hl:l<=lvl o.length (di o) nodes r.toNat):Dep (dn nodes r) ((jp o).drop l):=
 (h.wt.dep h.ord.ord hr.2).sub λv hv=>h.ord.ord.mem.2 ⟨(h.ord.ord.mem.1 hv).1,by have:=(h.ord.ord.mem.1 hv).2;omega⟩
theorem uU (h:TS o place nodes unique memo) {r:Int} (hr:Vd nodes r) {l:Nat} (hl:l<=o.length) (hd:Dep (dn nodes r) ((jp o).drop l)):l<=lvO o nodes r:=h.wt.lvl_ge h.ord.ord hr.2 hl hd
theorem DZ (h:TS o place nodes unique memo) (hb:nodes.length+1<=1099511627776) {v lo hi:Int} (hv:0<=v/\v<o.length) (hlo:Vd nodes lo) (hhi:Vd nodes hi) (h1:di o v.toNat<lvO o nodes lo) (h2:di o v.toNat<lvO o nodes hi) :
  ∃nodes' unique' r,(TS o place nodes' unique' memo/\Pre nodes nodes'/\Vd nodes' r/\(∀σ,dn nodes' r σ=bif σ v.toNat then dn nodes hi σ else dn nodes lo σ)/\nodes'.length<=nodes.length+1)/\
   ∀Q:List GDNode->GMap Int->Int->Prop,Q nodes' unique' r->cG v lo hi o place nodes unique memo Q:=by
 by_cases he:lo=hi
 ·exact ⟨nodes,unique,lo,⟨h,Pre.refl _,hlo,λσ=>by rw [<-he];cases σ v.toNat<;>rfl,by omega⟩,λQ hQ=>bH (λ_=>hQ) (λhc=>absurd he hc)⟩
 cases hm:cH unique [v,lo,hi] with
 | some r=>
  obtain ⟨a,b⟩:=h.tb.make_old hm
  refine ⟨nodes,unique,r,⟨h,Pre.refl _,a,b,by omega⟩,λQ hQ=>bH (λhc=>absurd hc he) (λ_=>bi (λhc=>?_) (λ_=>?_))⟩
  ·rw [hm] at hc;cases hc
  ·rw [hm];exact hQ
 | none=>
  obtain ⟨a,b,c⟩:=h.tb.make_new hv hlo hhi he h1 h2 hm
  refine ⟨_,_,_,⟨⟨h.ord,h.pl,h.pl2,a⟩,⟨_,rfl⟩,b,c,by simp⟩,λQ hQ=>bH (λhc=>absurd hc he) (λ_=>bi (λ_=>⟨by unfold rng;omega,by rw [List.length_append,List.length_singleton];omega,hQ⟩) (λhc=>?_))⟩
  rw [hm] at hc;cases hc
theorem D1:∀(k fu:Nat) {nodes:List GDNode} {unique memo:GMap Int} {c a b:Int},k<fu->TS o place nodes unique memo->nodes.length+2^k<=1099511627776->Vd nodes c->Vd nodes a->Vd nodes b->
  o.length<=k+lvO o nodes c->o.length<=k+lvO o nodes a->o.length<=k+lvO o nodes b->
  ∃nodes' unique' memo' r,(TS o place nodes' unique' memo'/\Pre nodes nodes'/\Vd nodes' r/\(∀σ,dn nodes' r σ=bif dn nodes c σ then dn nodes a σ else dn nodes b σ)/\nodes'.length+1<=nodes.length+2^k)/\
   ∀Q:List GDNode->GMap Int->GMap Int->Int->Prop,Q nodes' unique' memo' r->aD fu c a b o place nodes unique memo Q:=by
 intro k
 induction k with
 | zero=>
  intro fu nodes unique memo c a b hfu h hb hc ha hb' lc la lb
  obtain ⟨g,rfl⟩:∃g,fu=g+1:=⟨fu-1,by omega⟩
  have hc0:=hc.1
  have hc2:c<2:=by
   by_cases h2:c<2
   ·exact h2
   ·obtain ⟨_,x,_,_,e,_⟩:=h.at hc om
    have:=(h.ord.at_lev (v:=(at' nodes (c-2)).Var.toNat) om).1
    omega
  rcases (show c=0\/c=1 by omega) with rfl | rfl
  ·refine ⟨nodes,unique,memo,b,⟨h,Pre.refl _,hb',λσ=>by rw [dn0];rfl,by simp⟩,λQ hQ=>?_⟩
   rw [aD]
   refine ⟨λ_=>False,⟨λx=>x=decide (a=b),bH (λhh=>by cases hh) (λ_=>EZ),?_⟩,λ_ hh=>hh.elim⟩
   rintro x rfl
   refine condT (λhe=>by rw [he];exact hQ) (λ_=>bH (λ_=>hQ) (λhh=>absurd rfl hh))
  ·refine ⟨nodes,unique,memo,a,⟨h,Pre.refl _,ha,λσ=>by rw [dn1];rfl,by simp⟩,λQ hQ=>?_⟩
   rw [aD]
   refine ⟨λ_=>False,⟨λx=>x=true,bH (λ_=>rfl) (λhh=>absurd rfl hh),?_⟩,λ_ hh=>hh.elim⟩
   rintro x rfl
   exact bi (λ_=>hQ) (λhh=>by cases hh)
 | succ k ih=>
  intro fu nodes unique memo c a b hfu h hb hc ha hb' lc la lb
  obtain ⟨g,rfl⟩:∃g,fu=g+1:=⟨fu-1,by omega⟩
  have hpk:0<2^k:=Nat.pow_pos om
  rw [Nat.pow_succ] at hb
  have h1:1<=2^(k+1):=Nat.pow_pos om
  have hc0:=hc.1
  by_cases q1:c=1\/a=b
  ·refine ⟨nodes,unique,memo,a,⟨h,Pre.refl _,ha,λσ=>?_,by omega⟩,λQ hQ=>?_⟩
   ·rcases q1 with rfl | rfl
    ·rw [dn1];rfl
    ·cases dn nodes c σ<;>rfl
   ·rw [aD]
    refine ⟨λ_=>False,⟨λx=>x=true,bH (λ_=>rfl) (λhh=>by simpa using q1.resolve_left hh),?_⟩,λ_ hh=>hh.elim⟩
    rintro x rfl
    exact bi (λ_=>hQ) (λhh=>by cases hh)
  by_cases q2:c=0
  ·refine ⟨nodes,unique,memo,b,⟨h,Pre.refl _,hb',λσ=>by rw [q2,dn0];rfl,by omega⟩,λQ hQ=>?_⟩
   rw [aD]
   refine ⟨λ_=>False,⟨λx=>x=false,bH (λhh=>absurd (.inl hh) q1) (λ_=>by simpa using λhh=>q1 (.inr hh)),?_⟩,λ_ hh=>hh.elim⟩
   rintro x rfl
   exact bi (λhh=>by cases hh) (λ_=>bH (λ_=>hQ) (λhh=>absurd q2 hh))
  by_cases q3:a=1/\b=0
  ·refine ⟨nodes,unique,memo,c,⟨h,Pre.refl _,hc,λσ=>by rw [q3.1,q3.2,dn0,dn1];cases dn nodes c σ<;>rfl,by omega⟩,λQ hQ=>?_⟩
   rw [aD]
   refine ⟨λ_=>False,⟨λx=>x=false,bH (λhh=>absurd (.inl hh) q1) (λ_=>by simpa using λhh=>q1 (.inr hh)),?_⟩,λ_ hh=>hh.elim⟩
   rintro x rfl
   exact bi (λhh=>by cases hh) (λ_=>bH (λhh=>absurd hh q2) (λ_=>bH (λ_=>bH (λ_=>hQ) (λhh=>absurd q3.2 hh)) (λhh=>absurd q3.1 hh)))
  have enter:∀Q:List GDNode->GMap Int->GMap Int->Int->Prop,
    ak (Option.isSome (cH memo [c,a,b]))
    (Q nodes unique memo (Option.getD (cH memo [c,a,b]) 0))
    (bw c o place nodes unique memo λr=>
    bw a o place nodes unique memo λr1=>
    bw b o place nodes unique memo λr2=>
    bK c (min (min r r1) r2) o place nodes unique memo λr3 r4=>
    bK a (min (min r r1) r2) o place nodes unique memo λr5 r6=>
    bK b (min (min r r1) r2) o place nodes unique memo λr7 r8=>
    aD g r3 r5 r7 o place nodes unique memo λu u1 u2 lo=>
    aD g r4 r6 r8 o place u u1 u2 λu3 u4 u5 hi=>
    ((0:Int)<=(min (min r r1) r2)/\(min (min r r1) r2)<(o.length:Int))/\
    cG (at' o (min (min r r1) r2)) lo hi o place u3 u4 u5 λu6 u7 r9=>
    Q u6 u7 (mput u5 [c,a,b] r9) r9)->aD (g+1) c a b o place nodes unique memo Q:=λQ hq=>by
   rw [aD]
   refine ⟨λ_=>True,⟨λx=>x=false,bH (λhh=>absurd (.inl hh) q1) (λ_=>by simpa using λhh=>q1 (.inr hh)),?_⟩,λ_ _=>hq⟩
   rintro x rfl
   exact bi (λhh=>by cases hh) (λ_=>bH (λhh=>absurd hh q2) (λ_=>bH (λq4=>bH (λhh=>absurd ⟨q4,hh⟩ q3) (λ_=>trivial)) (λ_=>trivial)))
  cases hm:cH memo [c,a,b] with
  | some r=>
   obtain ⟨_,m2,m3⟩:=h.tb.me c a b r hm
   refine ⟨nodes,unique,memo,r,⟨h,Pre.refl _,m2,m3,by omega⟩,λQ hQ=>enter Q ?_⟩
   rw [hm]
   exact bi (λ_=>hQ) (λhh=>by cases hh)
  | none=>
   have hc2:2<=c:=om
   obtain ⟨_,cv,_,_,ce,_⟩:=h.at hc hc2
   have clv:=(h.ord.at_lev (v:=(at' nodes (c-2)).Var.toNat) om).1
   generalize hL:min (min (lvO o nodes c) (lvO o nodes a)) (lvO o nodes b)=L
   have hLn:L<o.length:=om
   have hLI:min (min (lvO o nodes c:Int) (lvO o nodes a:Int)) (lvO o nodes b:Int)=(L:Int):=om
   have hbn:nodes.length<=1099511627776:=om
   obtain ⟨v,hv⟩:∃v:Nat,at' o (L:Int)=v:=⟨(at' o (L:Int)).toNat,by have:=h.ord.rg L hLn;omega⟩
   have hvn:v<o.length:=by have:=h.ord.rg L hLn;omega
   have hvL:di o v=L:=by have:=h.ord.lev_at hLn;rwa [hv,Int.toNat_natCast] at this
   have kv:=λ(r:Int) (hr:Vd nodes r) (b:Bool)=>Gq h hr hLn b
   have kl:=λ(r:Int) (hr:Vd nodes r) (hl:L<=lvO o nodes r) (b:Bool)=>EJ h hr hLn hl b
   have kd:=λ(r:Int) (hr:Vd nodes r) (hl:L<=lvO o nodes r) (b:Bool) (σ:Asg)=>by
    have:=Gr h hr hvn (by rw [hvL];exact hl) b σ
    rwa [hvL] at this
   have lC:L<=lvO o nodes c:=om
   have lA:L<=lvO o nodes a:=om
   have lB:L<=lvO o nodes b:=om
   obtain ⟨n1,u1,m1,lo,⟨t1,p1,v1,d1,s1⟩,w1⟩:=ih g om h om (kv c hc false) (kv a ha false) (kv b hb' false) (by have:=kl c hc lC false;omega) (by have:=kl a ha lA false;omega) (by have:=kl b hb' lB false;omega)
   have lv1:∀r b,Vd nodes r->L<=lvO o nodes r->L+1<=lvO o n1 (kid o nodes r L b):=λr b hr hl=>by
    show L+1<=lvl o.length (di o) n1 (kid o nodes r L b).toNat
    rw [Pre.lvl (kv r hr b) p1];exact kl r hr hl b
   obtain ⟨n2,u2,m2,hi,⟨t2,p2,v2,d2,s2⟩,w2⟩:=ih g om t1 om ((kv c hc true).pre p1) ((kv a ha true).pre p1) ((kv b hb' true).pre p1) (by have:=lv1 c true hc lC;omega) (by have:=lv1 a true ha lA;omega) (by have:=lv1 b true hb' lB;omega)
   have v1':=v1.pre p2
   have dlo:∀σ,dn n2 lo σ=bif dn nodes c (cq σ v false) then dn nodes a (cq σ v false) else dn nodes b (cq σ v false):=λσ=>by
    rw [fG v1 p2,d1,kd c hc lC,kd a ha lA,kd b hb' lB]
   have dhi:∀σ,dn n2 hi σ=bif dn nodes c (cq σ v true) then dn nodes a (cq σ v true) else dn nodes b (cq σ v true):=λσ=>by
    rw [d2,fG (kv c hc true) p1,fG (kv a ha true) p1,fG (kv b hb' true) p1,kd c hc lC,kd a ha lA,kd b hb' lB]
   have dep:∀(r:Int) (hr:Vd nodes r),L<=lvO o nodes r->∀(b:Bool) (σ σ':Asg),(∀w∈(jp o).drop (L+1),σ w=σ' w)->dn nodes r (cq σ v b)=dn nodes r (cq σ' v b):=λr hr hl b σ σ' hh=>by
    have:=FSx h hr hl
    have hdr:(jp o).drop L=v :: (jp o).drop (L+1):=by have:=h.ord.ord.drop hvn;rwa [hvL] at this
    rw [hdr] at this
    exact this.set σ σ' hh
   have llo:L+1<=lvO o n2 lo:=uU t2 v1' om λσ σ' hh=>by
    simp only [dlo]
    rw [dep c hc lC false σ σ' hh,dep a ha lA false σ σ' hh,dep b hb' lB false σ σ' hh]
   have lhi:L+1<=lvO o n2 hi:=uU t2 v2 om λσ σ' hh=>by
    simp only [dhi]
    rw [dep c hc lC true σ σ' hh,dep a ha lA true σ σ' hh,dep b hb' lB true σ σ' hh]
   obtain ⟨n3,u3,r,⟨t3,p3,v3,d3,s3⟩,w3⟩:=DZ t2 om (v:=(v:Int)) ⟨by omega,by omega⟩ v1' v2 (by rw [Int.toNat_natCast,hvL];omega) (by rw [Int.toNat_natCast,hvL];omega)
   have p13:=(p1.trans p2).trans p3
   have hres:∀σ,dn n3 r σ=bif dn nodes c σ then dn nodes a σ else dn nodes b σ:=λσ=>by
    rw [d3,Int.toNat_natCast]
    cases hs:σ v
    ·rw [cond_false,dlo,show cq σ v false=σ by rw [<-hs];exact tQ]
    ·rw [cond_true,dhi,show cq σ v true=σ by rw [<-hs];exact tQ]
   refine ⟨n3,u3,mput m2 [c,a,b] r,r,⟨⟨t3.ord,t3.pl,t3.pl2,t3.tb.memo_put (hc.pre p13) (ha.pre p13) (hb'.pre p13) v3 (λσ=>by rw [fG hc p13,fG ha p13,fG hb' p13];exact hres σ)⟩,p13,v3,hres,by rw [Nat.pow_succ];omega⟩,λQ hQ=>enter Q ?_⟩
   rw [hm]
   refine bi (λhh=>by cases hh) (λ_=>tT h hbn hc (tT h hbn ha (tT h hbn hb' ?_)))
   rw [hLI]
   refine Ap h hbn hc hLn (Ap h hbn ha hLn (Ap h hbn hb' hLn (w1 _ (w2 _ ⟨⟨by omega,by omega⟩,?_⟩))))
   rw [hv]
   exact w3 _ hQ
end
end Go.Gg
namespace Go.Gg
section
variable {o place:List Int} {nodes:List GDNode} {unique memo:GMap Int}
structure After (o place:List Int) (nodes nodes':List GDNode) (unique' memo':GMap Int) (r:Int) (f:Asg->Bool) (c:Nat):Prop where
 ts:TS o place nodes' unique' memo'
 pre:Pre nodes nodes'
 vd:Vd nodes' r
 dn:dn nodes' r=f
 le:nodes'.length<=nodes.length+c
theorem o3 (h:TS o place nodes unique memo) (hb:nodes.length+2^o.length<=1099511627776) {c a b:Int} (hc:Vd nodes c) (ha:Vd nodes a) (hb':Vd nodes b) :
  ∃nodes' unique' memo' r,After o place nodes nodes' unique' memo' r (λσ=>bif dn nodes c σ then dn nodes a σ else dn nodes b σ) (2^o.length)/\
   ∀Q:List GDNode->GMap Int->GMap Int->Int->Prop,Q nodes' unique' memo' r->∃fu,aD fu c a b o place nodes unique memo Q:=by
 obtain ⟨n1,u1,m1,r,⟨a1,a2,a3,a4,a5⟩,w⟩:=D1 o.length (o.length+1) om h hb hc ha hb' om om om
 exact ⟨n1,u1,m1,r,⟨a1,a2,a3,funext a4,by omega⟩,λQ hQ=>⟨o.length+1,w Q hQ⟩⟩
theorem Hx (h:TS o place nodes unique memo) (hb:nodes.length+2^o.length<=1099511627776) {a b:Int} (ha:Vd nodes a) (hb':Vd nodes b) :
  ∃nodes' unique' memo' r,After o place nodes nodes' unique' memo' r (λσ=>dn nodes a σ && dn nodes b σ) (2^o.length)/\
   ∀Q:List GDNode->GMap Int->GMap Int->Int->Prop,Q nodes' unique' memo' r->dz a b o place nodes unique memo Q:=by
 obtain ⟨n1,u1,m1,r,h1,w⟩:=o3 h hb ha hb' vd0
 refine ⟨n1,u1,m1,r,⟨h1.ts,h1.pre,h1.vd,by rw [h1.dn,dn0];funext σ;cases dn nodes a σ<;>rfl,h1.le⟩,λQ hQ=>w Q hQ⟩
theorem HX (h:TS o place nodes unique memo) (hb:nodes.length+2^o.length<=1099511627776) {a b:Int} (ha:Vd nodes a) (hb':Vd nodes b) :
  ∃nodes' unique' memo' r,After o place nodes nodes' unique' memo' r (λσ=>dn nodes a σ || dn nodes b σ) (2^o.length)/\
   ∀Q:List GDNode->GMap Int->GMap Int->Int->Prop,Q nodes' unique' memo' r->dU a b o place nodes unique memo Q:=by
 obtain ⟨n1,u1,m1,r,h1,w⟩:=o3 h hb ha vd1 hb'
 refine ⟨n1,u1,m1,r,⟨h1.ts,h1.pre,h1.vd,by rw [h1.dn,dn1];funext σ;cases dn nodes a σ<;>rfl,h1.le⟩,λQ hQ=>w Q hQ⟩
theorem FD (h:TS o place nodes unique memo) (hb:nodes.length+2^o.length<=1099511627776) {a:Int} (ha:Vd nodes a) :
  ∃nodes' unique' memo' r,After o place nodes nodes' unique' memo' r (λσ=>!dn nodes a σ) (2^o.length)/\
   ∀Q:List GDNode->GMap Int->GMap Int->Int->Prop,Q nodes' unique' memo' r->dx a o place nodes unique memo Q:=by
 obtain ⟨n1,u1,m1,r,h1,w⟩:=o3 h hb ha vd0 vd1
 refine ⟨n1,u1,m1,r,⟨h1.ts,h1.pre,h1.vd,by rw [h1.dn,dn0,dn1];funext σ;cases dn nodes a σ<;>rfl,h1.le⟩,λQ hQ=>w Q hQ⟩
theorem Hv (h:TS o place nodes unique memo) (hb:nodes.length+2*2^o.length<=1099511627776) {a b:Int} (ha:Vd nodes a) (hb':Vd nodes b) :
  ∃nodes' unique' memo' r,After o place nodes nodes' unique' memo' r (λσ=>dn nodes a σ != dn nodes b σ) (2*2^o.length)/\
   ∀Q:List GDNode->GMap Int->GMap Int->Int->Prop,Q nodes' unique' memo' r->dw a b o place nodes unique memo Q:=by
 obtain ⟨n1,u1,m1,r1,h1,w1⟩:=FD h om hb'
 have:=h1.le
 obtain ⟨n2,u2,m2,r,h2,w2⟩:=o3 h1.ts om (ha.pre h1.pre) h1.vd (hb'.pre h1.pre)
 have:=h2.le
 refine ⟨n2,u2,m2,r,⟨h2.ts,h1.pre.trans h2.pre,h2.vd,?_,by omega⟩,λQ hQ=>w1 _ (w2 Q hQ)⟩
 rw [h2.dn,h1.dn,fG ha h1.pre,fG hb' h1.pre]
 funext σ
 show (bif dn nodes a σ then !dn nodes b σ else dn nodes b σ)=_
 cases dn nodes a σ<;>cases dn nodes b σ<;>rfl
theorem Ff (h:TS o place nodes unique memo) (hb:nodes.length+1<=1099511627776) {v:Int} (hv:0<=v/\v<o.length) :
  ∃nodes' unique' r,After o place nodes nodes' unique' memo r (λσ=>σ v.toNat) 1/\
   ∀Q:List GDNode->GMap Int->Int->Prop,Q nodes' unique' r->c6 v o place nodes unique memo Q:=by
 have hl:=(h.ord.at_lev (v:=v.toNat) om).1
 obtain ⟨n1,u1,r,⟨a1,a2,a3,a4,a5⟩,w⟩:=DZ h hb hv vd0 vd1 (by show _<lvl _ _ _ 0;rw [iC om];exact hl) (by show _<lvl _ _ _ 1;rw [iC om];exact hl)
 refine ⟨n1,u1,r,⟨a1,a2,a3,?_,a5⟩,λQ hQ=>w Q hQ⟩
 funext σ
 rw [a4,dn0,dn1]
 cases σ v.toNat<;>rfl
theorem Gm {V:Type} {m:GMap V} {k:List Int} {v:V}:(mput m k v).n<=m.n+1:=by
 unfold mput
 dsimp only
 cases (m.f k).isSome
 ·exact Nat.le_refl _
 ·exact Nat.le_succ _
theorem Ca (h:TS o place nodes unique memo) (hb:nodes.length<=1099511627776):∀(k fu:Nat) {seen:GMap Bool} {r most:Int},k<fu->Vd nodes r->o.length<=k+lvO o nodes r->
  ∃seen':GMap Bool,seen'.n+1<=seen.n+2^k/\∀Q:GMap Bool->Prop,Q seen'->aN fu r most seen o place nodes unique memo Q:=by
 intro k
 induction k with
 | zero=>
  intro fu seen r most hfu hr hk
  obtain ⟨f,rfl⟩:∃f,fu=f+1:=⟨fu-1,by omega⟩
  refine ⟨seen,by simp,λQ hQ=>?_⟩
  rw [aN]
  refine condT (λ_=>hQ) (λhc=>?_)
  obtain ⟨_,x,_,_,e,_⟩:=h.at hr om
  have:=(h.ord.at_lev (v:=(at' nodes (r-2)).Var.toNat) om).1
  omega
 | succ k ih=>
  intro fu seen r most hfu hr hk
  obtain ⟨f,rfl⟩:∃f,fu=f+1:=⟨fu-1,by omega⟩
  have hpk:0<2^k:=Nat.pow_pos om
  rw [Nat.pow_succ]
  by_cases h2:r<2
  ·refine ⟨seen,by omega,λQ hQ=>?_⟩
   rw [aN]
   exact condT (λ_=>hQ) (λhc=>absurd h2 hc)
  by_cases h3:Option.getD (cH seen [r]) false=true
  ·refine ⟨seen,by omega,λQ hQ=>?_⟩
   rw [aN]
   exact condT (λ_=>hQ) (λ_=>bi (λ_=>hQ) (λhc=>by rw [h3] at hc;cases hc))
  by_cases h4:most<((GMap.n seen:Nat):Int)
  ·refine ⟨seen,by omega,λQ hQ=>?_⟩
   rw [aN]
   exact condT (λ_=>hQ) (λ_=>bi (λ_=>hQ) (λ_=>condT (λ_=>hQ) (λhc=>absurd h4 hc)))
  obtain ⟨_,_,xl,xh,_,xlo,xhi⟩:=h.at hr om
  have hr2:=hr.2
  have hn:=Gm (m:=seen) (k:=[r]) (v:=true)
  obtain ⟨s1,c1,w1⟩:=ih f (seen:=mput seen [r] true) (r:=(at' nodes (r-2)).Lo) (most:=most) om ⟨xl.1,by omega⟩ om
  obtain ⟨s2,c2,w2⟩:=ih f (seen:=s1) (r:=(at' nodes (r-2)).Hi) (most:=most) om ⟨xh.1,by omega⟩ om
  refine ⟨s2,by omega,λQ hQ=>?_⟩
  rw [aN]
  exact condT (λhc=>absurd hc h2) (λ_=>bi (λhc=>absurd hc h3) (λ_=>condT (λhc=>absurd hc h4) (λ_=>⟨by unfold rng;omega,⟨by omega,by omega⟩,s1,w1 _ rfl,by unfold rng;omega,⟨by omega,by omega⟩,s2,w2 _ rfl,hQ⟩)))
theorem Aq (h:TS o place nodes unique memo) (hb:nodes.length<=1099511627776) {root:Int} {oo:List Int}:∀(k fu:Nat) {refs:GMap Int} {M:List GDNode} {r:Int},k<fu->Vd nodes r->o.length<=k+lvO o nodes r->EX o.length (di o) nodes refs M->M.length+2^k<=1099511627776->
  ∃(refs':GMap Int) (M':List GDNode) (x:Int),(EX o.length (di o) nodes refs' M'/\0<=x/\dj (jp o) (dn nodes r) M=(M',x.toNat)/\M'.length+1<=M.length+2^k/\∀q:Int,r<q->cH refs' [q]=cH refs [q])/\
   ∀Q:GMap Int->List GDNode->Int->Prop,Q refs' M' x->bm fu r root refs oo M o place nodes unique memo Q:=by
 intro k
 induction k with
 | zero=>
  intro fu refs M r hfu hr hk hE hB
  obtain ⟨f,rfl⟩:∃f,fu=f+1:=⟨fu-1,by omega⟩
  have h0:=hr.1
  have h2:r<2:=by
   by_cases h2:r<2
   ·exact h2
   ·obtain ⟨_,x,_,_,e,_⟩:=h.at hr om
    have:=(h.ord.at_lev (v:=(at' nodes (r-2)).Var.toNat) om).1
    omega
  have hm:cH refs [r]=some r:=by
   rcases (show r=0\/r=1 by omega) with rfl | rfl
   ·exact hE.c0
   ·exact hE.c1
  refine ⟨refs,M,r,⟨hE,h0,hE.old h.ord.ord h.wt hm,by simp,λ_ _=>rfl⟩,λQ hQ=>?_⟩
  rw [bm,hm]
  exact bi (λ_=>hQ) (λhc=>by cases hc)
 | succ k ih=>
  intro fu refs M r hfu hr hk hE hB
  obtain ⟨f,rfl⟩:∃f,fu=f+1:=⟨fu-1,by omega⟩
  have hpk:0<2^k:=Nat.pow_pos om
  rw [Nat.pow_succ] at hB ⊢
  cases hm:cH refs [r] with
  | some x=>
   refine ⟨refs,M,x,⟨hE,(hE.sound r x hm).2.2.1,hE.old h.ord.ord h.wt hm,by omega,λ_ _=>rfl⟩,λQ hQ=>?_⟩
   rw [bm,hm]
   exact bi (λ_=>hQ) (λhc=>by cases hc)
  | none=>
   have h0:=hr.1
   have h2:2<=r:=by
    by_cases h2:r<2
    ·rcases (show r=0\/r=1 by omega) with rfl | rfl
     ·rw [hE.c0] at hm;cases hm
     ·rw [hE.c1] at hm;cases hm
    ·omega
   obtain ⟨hx,_,xl,xh,_,xlo,xhi⟩:=h.at hr h2
   have hr2:=hr.2
   obtain ⟨r1,M1,y1,⟨E1,z1,e1,c1,k1⟩,w1⟩:=ih f (refs:=refs) (M:=M) (r:=(at' nodes (r-2)).Lo) om ⟨xl.1,by omega⟩ om hE om
   obtain ⟨r2,M2,y2,⟨E2,z2,e2,c2,k2⟩,w2⟩:=ih f (refs:=r1) (M:=M1) (r:=(at' nodes (r-2)).Hi) om ⟨xh.1,by omega⟩ om E1 om
   have hno:cH r2 [r]=none:=by rw [k2 r om,k1 r om];exact hm
   have er:r=((2+(r-2).toNat:Nat):Int):=om
   have hN:=EX.node h.ord.ord h.wt hE.wt E2 hx z1 z2 e1 e2 (by rw [<-er];exact hno)
   rw [<-er] at hN
   obtain ⟨ha,hE3⟩:=hN
   have hlen:(M2++[(⟨(at' nodes (r-2)).Var,y1,y2⟩:GDNode)]).length=M2.length+1:=by rw [List.length_append];rfl
   refine ⟨_,_,((2+M2.length:Nat):Int),⟨hE3,by omega,?_,by rw [hlen];omega,λq hq=>?_⟩,λQ hQ=>?_⟩
   ·rw [show dn nodes r=λσ=>den nodes σ (2+(r-2).toNat) from ?_,ha,Int.toNat_natCast]
    funext σ
    unfold dn
    congr 1
    omega
   ·rw [eB,if_neg om,k2 q om,k1 q om]
   ·rw [bm,hm]
    refine bi (λhc=>by cases hc) (λ_=>⟨by unfold rng;omega,⟨by omega,by omega⟩,w1 _ (w2 _ ⟨by rw [hlen];omega,by rw [hlen];unfold rng;omega,?_⟩)⟩)
    rw [hlen,eB,if_pos rfl,show (1+((M2.length+1:Nat):Int))=((2+M2.length:Nat):Int) by omega]
    exact hQ
theorem D0 (h:TS o place nodes unique memo) (hb:nodes.length<=1099511627776) {r:Int} (hr:Vd nodes r) {Q:GDiagram->Prop} (hQ:Q (vz o (dn nodes r))):c5 r o place nodes unique memo Q:=by
 have hn:=h.ord.le
 have hp:=qk hn
 obtain ⟨refs,M,x,⟨_,z,e,_,_⟩,w⟩:=Aq h hb (root:=0) (oo:=o) o.length (o.length+1) (refs:=mput (mput (iQ:GMap Int) [0] 0) [1] 1) (M:=[]) (r:=r) om hr om EX.start (by simp;omega)
 refine ⟨by omega,o.length+1,w _ ?_⟩
 have:(⟨o,M,x⟩:GDiagram)=vz o (dn nodes r):=by
  unfold vz
  rw [e]
  simp only [GDiagram.mk.injEq,true_and]
  omega
 rw [this]
 exact hQ
end
end Go.Gg
namespace Go.Gg
theorem o7 {α:Type} {n:Int} {x:α} (h:0<=n):((bp n x).length:Int)=n:=by simp [bp];omega
theorem zJ {α:Type} [Inhabited α] {n:Int} {x:α} {i:Nat} (h:(i:Int)<n):at' (bp n x) (i:Int)=x:=by
 simp [at',bp,List.getD_eq_getElem?_getD,show i<n.toNat by omega]
instance:DecidableEq GDiagram:=λa b=>decidable_of_iff (a.Order=b.Order/\a.Nodes=b.Nodes/\a.Root=b.Root) (by cases a;cases b;simp)
theorem Hw {o:List Int} {Q:List Int->List Int->GMap Int->GMap Int->Prop} (h:Or14 o) (hQ:∀place,TS o place [] iQ iQ->Q o place iQ iQ):jf o Q:=by
 have hle:=h.le
 refine ⟨by omega,⟨by omega,by omega,by omega,by omega⟩,?_⟩
 refine cY (n:=o.length) (λi y=>y.1=(i:Int)/\y.2.length=o.length/\∀v:Nat,v<o.length->di o v<i->at' y.2 (v:Int)=(di o v:Int)) (λy=>y.1) 0 (λi y hy=>by rw [hy.1];omega) ⟨rfl,by simp [bp],λv hv hl=>absurd hl om⟩ ?_ ?_
 ·rintro i ⟨x,out⟩ next hi ⟨hx,hl,hI⟩ hn
  dsimp only at hx hl hI
  subst hx
  have hr:=h.rg i hi
  obtain ⟨v,hv⟩:∃v:Nat,at' o (i:Int)=v:=⟨(at' o (i:Int)).toNat,by omega⟩
  have hlv:=h.lev_at hi
  rw [hv,Int.toNat_natCast] at hlv
  refine condT (λ_=>⟨⟨by omega,by omega⟩,by omega,by unfold rng;omega,hn _ ⟨by dsimp only;omega,by dsimp only;rw [d9];exact hl,λu hu hul=>?_⟩⟩) (λhc=>absurd (show (i:Int)<o.length by omega) hc)
  dsimp only
  rw [hv,jk om]
  split
  ·rename_i he;subst he;rw [hlv]
  ·rename_i he
   refine hI u hu ?_
   rcases Nat.lt_or_ge (di o u) i with h5 | h5
   ·exact h5
   ·have h6:=(h.at_lev hu).2
    rw [show di o u=i by omega,hv] at h6
    omega
 ·rintro ⟨x,out⟩ next ⟨hx,hl,hI⟩
  dsimp only at hx hl hI
  subst hx
  exact condT (λhc=>absurd hc om) (λ_=>hQ out ⟨h,hl,λv hv=>hI v hv (h.at_lev hv).1,TB.nil⟩)
def dF (d:GDiagram):Asg->Bool:=dn d.Nodes d.Root
structure Opn (l:List GDiagram) (place:List Int) (nodes:List GDNode) (unique memo:GMap Int) (refs:List Int):Prop where
 ts:TS (at' l 0).Order place nodes unique memo
 len:refs.length=l.length
 le:nodes.length<=4096*l.length
 ref:∀i:Nat,i<l.length->Vd nodes (at' refs (i:Int))/\dn nodes (at' refs (i:Int))=dF (at' l (i:Int))
end Go.Gg
namespace Go.Gg
def noD:GDiagram:=⟨[],[],0⟩
section
variable {o place:List Int} {nodes:List GDNode} {unique memo:GMap Int}
end
theorem After.mono {o place:List Int} {nodes nodes':List GDNode} {unique' memo':GMap Int} {r:Int} {f:Asg->Bool} {c c':Nat} (h:After o place nodes nodes' unique' memo' r f c) (hc:c<=c'):After o place nodes nodes' unique' memo' r f c':=⟨h.ts,h.pre,h.vd,h.dn,Nat.le_trans h.le (Nat.add_le_add_left hc _)⟩
section
variable {a b:GDiagram} {Q:GDiagram->Option Int->Prop}
end
end Go.Gg
namespace Go.Gg
structure Least (n:Nat) (f:Asg->Bool) (m:Nat):Prop where
 lt:m<2^n
 yes:f (stA m)=true
 no:∀s,s<m->f (stA s)=false
end Go.Gg
namespace Go.Gg
structure Upd (n:Nat) (g f:Asg->Bool) (i:Nat) (t:List Bool):Prop where
 len:t.length=2^n
 at_:∀s:Nat,s<2^n->at' t (s:Int)=if s<i then g (stA s) else f (stA s)
theorem gT {α:Type} {l:List α} {x:α}:(l++[x]).length=l.length+1:=by simp
end Go.Gg
namespace Go.Gg
section
variable {o:List Int} {f:Asg->Bool}
end
end Go.Gg
namespace Go.Gg
theorem jj {α:Type} [Inhabited α] {l:List α} {a:Int} {x:α} {j:Int} (ha:0<=a/\a<l.length) (hj:0<=j):at' (bn l a x) j=if j=a then x else at' l j:=by
 obtain ⟨n,rfl⟩:∃n:Nat,a=n:=⟨a.toNat,by omega⟩
 obtain ⟨m,rfl⟩:∃n:Nat,j=n:=⟨j.toNat,by omega⟩
 rw [jk om]
 by_cases h:m=n
 ·rw [if_pos h,if_pos om]
 ·rw [if_neg h,if_neg om]
def lh (as:List Int) (m:List Bool):List Bool:=as.foldl (λm a=>bn m a true) m
theorem p6:∀(as:List Int) (m:List Bool),(lh as m).length=m.length
 | [],_=>rfl
 | a :: as,m=>by rw [lh,List.foldl_cons];exact (p6 as _).trans d9
theorem rW:∀(as:List Int) (m:List Bool) {j:Int},(∀a∈as,0<=a/\a<m.length)->0<=j->(at' (lh as m) j=true↔at' m j=true\/j∈as)
 | [],m,j,_,_=>by simp [lh]
 | a :: as,m,j,h,hj=>by
  have ha:=h a (by simp)
  have ih:=rW as (bn m a true) (j:=j) (λb hb=>by rw [d9];exact h b (List.mem_cons_of_mem _ hb)) hj
  rw [lh,List.foldl_cons]
  show at' (lh as (bn m a true)) j=true↔_
  rw [ih,jj ha hj,List.mem_cons]
  by_cases he:j=a
  ·rw [if_pos he];simp [he]
  ·rw [if_neg he];simp [he]
theorem yv {as:List Int} {a:Int} {m:List Bool}:lh (as++[a]) m=bn (lh as m) a true:=by simp [lh]
theorem nq {α:Type} [Inhabited α] {l:List α} {j:Nat} (h:j<l.length):l.take (j+1)=l.take j++[at' l (j:Int)]:=by
 rw [List.take_add_one,List.getElem?_eq_getElem h]
 simp [at',List.getD_eq_getElem?_getD,h]
theorem tc {α:Type} [Inhabited α] {l:List α} {j:Nat} (h:j<l.length):at' l (j:Int)∈l:=by
 simp only [at',Int.toNat_natCast,List.getD_eq_getElem?_getD,List.getElem?_eq_getElem h,Option.getD_some]
 exact List.getElem_mem h
theorem Hg {α:Type} [Inhabited α] {l:List α} {x:α} (h:x∈l):∃j:Nat,j<l.length/\at' l (j:Int)=x:=by
 obtain ⟨j,hj,rfl⟩:=List.mem_iff_getElem.1 h
 exact ⟨j,hj,by simp [at',List.getD_eq_getElem?_getD,hj]⟩
def yn (f:GFormula) (i:Nat) (m:List Bool):List Bool:=if at' m (f.Vars+i)=true then lh (at' f.Nodes (i:Int)).Args m else m
def iN (f:GFormula):Nat->List Bool
 | 0=>bn (bp (f.Vars+(f.Nodes.length:Int)) false) f.Top true
 | k+1=>yn f (f.Nodes.length-1-k) (iN f k)
section
variable {f:GFormula}
theorem kS (g:FG f):∀k,((iN f k).length:Int)=f.Vars+f.Nodes.length
 | 0=>by
  have:=g.v0
  rw [iN,d9,o7 om]
 | k+1=>by
  rw [iN,yn]
  split
  ·rw [p6];exact kS g k
  ·exact kS g k
theorem sN (g:FG f) {i:Nat} (hi:i<f.Nodes.length):∀a∈(at' f.Nodes (i:Int)).Args,0<=a/\a<f.Vars+i:=λa ha=>by
 obtain ⟨j,hj,rfl⟩:=Hg ha
 exact (gC (g.node i hi)).arg j hj
structure Below (f:GFormula) (k:Nat) (m:List Bool):Prop where
 top:at' m f.Top=true
 cl:∀i:Nat,f.Nodes.length-k<=i->i<f.Nodes.length->at' m (f.Vars+i)=true->∀a∈(at' f.Nodes (i:Int)).Args,at' m a=true
theorem oP (g:FG f):∀k,k<=f.Nodes.length->Below f k (iN f k)
 | 0,_=>by
  have:=g.v0;have:=g.top0;have:=g.top
  have hl:((bp (f.Vars+(f.Nodes.length:Int)) false).length:Int)=f.Vars+f.Nodes.length:=o7 om
  refine ⟨?_,λi h1 h2=>om⟩
  rw [iN,jj om om,if_pos rfl]
 | k+1,hk=>by
  have ih:=oP g k om
  have hl:=kS g k
  have v0:=g.v0
  have hi:f.Nodes.length-1-k<f.Nodes.length:=om
  have hin:=sN g hi
  have hin':∀a∈(at' f.Nodes ((f.Nodes.length-1-k:Nat):Int)).Args,0<=a/\a<(iN f k).length:=λa ha=>by have:=hin a ha;omega
  rw [iN,yn]
  split
  ·rename_i hm
   refine ⟨(rW _ _ hin' g.top0).2 (.inl ih.top),λi h1 h2 h3 a ha=>?_⟩
   have ha0:=sN g h2 a ha
   rw [rW _ _ hin' om] at h3 ⊢
   by_cases he:i=f.Nodes.length-1-k
   ·subst he;exact .inr ha
   ·rcases h3 with h3 | h3
    ·exact .inl (ih.cl i om h2 h3 a ha)
    ·have:=hin _ h3;omega
  ·rename_i hm
   refine ⟨ih.top,λi h1 h2 h3 a ha=>?_⟩
   by_cases he:i=f.Nodes.length-1-k
   ·subst he;exact absurd h3 hm
   ·exact ih.cl i om h2 h3 a ha
theorem Br (g:FG f) {Q:List Bool->Prop} (hQ:Q (iN f f.Nodes.length)):iw f Q:=by
 have v0:=g.v0;have v24:=g.v24;have n128:=g.n128;have t0:=g.top0;have tt:=g.top
 refine ⟨by unfold rng;omega,⟨by omega,by omega,by omega,by omega⟩,by omega,by unfold rng;omega,?_⟩
 refine ⟨λy=>∃k:Nat,k<=f.Nodes.length/\y=((f.Nodes.length:Int)-1-k,iN f k),λy=>(y.1+1).toNat,⟨0,by omega,by simp [iN]⟩,?_⟩
 rintro _ ⟨k,hk,rfl⟩
 refine condT (λhc=>?_) (λhc=>?_)
 ·have ei:(f.Nodes.length:Int)-1-k=((f.Nodes.length-1-k:Nat):Int):=om
  have hi:f.Nodes.length-1-k<f.Nodes.length:=om
  have hl:=kS g k
  have hin:=sN g hi
  rw [ei]
  refine ⟨by unfold rng;omega,by omega,bi (λhm=>⟨by omega,?_⟩) (λhm=>⟨by unfold rng;omega,⟨k+1,by omega,?_⟩,by dsimp only;omega⟩)⟩
  ·have ll:=(gC (g.node _ hi)).len
   refine dq (n:=(at' f.Nodes ((f.Nodes.length-1-k:Nat):Int)).Args.length) (λj=>((j:Int),lh ((at' f.Nodes ((f.Nodes.length-1-k:Nat):Int)).Args.take j) (iN f k))) (λy=>y.1) 0 (λi=>by dsimp only;omega) rfl (λj next hj hn=>?_) (λnext=>?_)
   ·have ha:=hin _ (tc hj)
    refine condT (λ_=>⟨by omega,by rw [p6];omega,by unfold rng;omega,?_⟩) (λhc=>absurd (show (j:Int)<_ by omega) hc)
    rw [nq hj,yv] at hn
    exact hn
   ·refine condT (λhc=>absurd hc om) (λ_=>⟨by unfold rng;omega,⟨k+1,by omega,?_⟩,by dsimp only;omega⟩)
    rw [List.take_length,iN,yn,if_pos hm]
    refine Prod.ext ?_ rfl
    show _=_
    simp only;omega
  ·rw [iN,yn,if_neg (by rw [hm];simp)]
   refine Prod.ext ?_ rfl
   show _=_
   simp only;omega
 ·obtain rfl:k=f.Nodes.length:=om
  exact hQ
theorem ym {α:Type} [Inhabited α] {l:List α} {a:Int} (h:0<=a/\a<=l.length):((cE l a (l.length:Int)).length:Int)=l.length-a/\∀i:Nat,(i:Int)<l.length-a->at' (cE l a (l.length:Int)) (i:Int)=at' l (a+i):=by
 obtain ⟨n,rfl⟩:∃n:Nat,a=n:=⟨a.toNat,by omega⟩
 refine ⟨by simp [cE];omega,λi hi=>?_⟩
 rw [show (n:Int)+(i:Int)=((n+i:Nat):Int) by omega]
 simp only [at',cE,List.getD_eq_getElem?_getD,Int.toNat_natCast]
 rw [List.getElem?_take,if_pos om,List.getElem?_drop]
theorem GJ {Q:Int->Int->Option Int->Prop} (ht:rng f.Top) (h1:jr f≠0->Q 0 0 (some (jr f))) (h2:FG f->∀r a,0<=r->(r=0->f.Top<f.Vars)->Q r a none):lL f Q:=by
 refine eV ht ?_
 by_cases h0:jr f=0
 ·have g:=jH.1 h0
  have v0:=g.v0;have v24:=g.v24;have n128:=g.n128
  have hl:=kS g f.Nodes.length
  have hb:=oP g f.Nodes.length (Nat.le_refl _)
  obtain ⟨sl,sa⟩:=ym (l:=iN f f.Nodes.length) (a:=f.Vars) om
  rw [h0]
  refine bi (λhc=>by cases hc) (λ_=>⟨_,Br g rfl,⟨by omega,by omega,by omega⟩,?_⟩)
  refine cY (n:=f.Nodes.length) (λi (y:Int×Int×Int)=>(y.2.2=(i:Int)/\0<=y.1/\y.1<=(i:Int)/\0<=y.2.1/\y.2.1<=16*(i:Int))/\(y.1=0->∀k:Nat,k<i->at' (iN f f.Nodes.length) (f.Vars+k)=false)) (λy=>y.2.2) 0 (λi y hy=>by rw [hy.1.1];omega) ⟨by dsimp only;omega,λ_ k hk=>absurd hk om⟩ ?_ ?_
  ·rintro i ⟨nn,aa,x⟩ next hi ⟨⟨hx,a1,a2,a3,a4⟩,hz⟩ hn
   dsimp only at hx a1 a2 a3 a4 hz
   subst hx
   have ll:=(gC (g.node _ hi)).len
   dsimp only
   rw [sa i om]
   refine condT (λ_=>⟨by omega,bi (λhm=>⟨by unfold rng;omega,by omega,by unfold rng;omega,ik ⟨by unfold rng;omega,hn _ ⟨by dsimp only;omega,λhc=>by dsimp only at hc;omega⟩⟩⟩) (λhm=>⟨by unfold rng;omega,hn _ ⟨by dsimp only;omega,λhc k hk=>?_⟩⟩)⟩) (λhc=>absurd (show (i:Int)<_ by omega) hc)
   by_cases hk2:k<i
   ·exact hz hc k hk2
   ·obtain rfl:k=i:=om
    exact hm
  ·rintro ⟨nn,aa,x⟩ next ⟨⟨hx,a1,a2,a3,a4⟩,hz⟩
   dsimp only at hx a1 a2 a3 a4 hz
   subst hx
   refine condT (λhc=>absurd hc om) (λ_=>h2 g nn aa a1 λhr=>?_)
   by_cases hT:f.Top<f.Vars
   ·exact hT
   ·have:=hz hr (f.Top-f.Vars).toNat (by have:=g.top;omega)
    rw [show f.Vars+((f.Top-f.Vars).toNat:Int)=f.Top by omega,hb.top] at this
    cases this
 ·have:Option.isSome (j4 (jr f))=true:=by rw [dI];simp [h0]
  have e:j4 (jr f)=some (jr f):=vk h0
  rw [e]
  exact bi (λ_=>h1 h0) (λhc=>by cases hc)
theorem qw {f g:GFormula} {s:Nat} (hV:f.Vars=g.Vars):∀n,(∀i:Nat,i<n->at' f.Nodes (i:Int)=at' g.Nodes (i:Int))->cd f s n=cd g s n
 | 0,_=>by rw [cd,cd,hV]
 | n+1,h=>by rw [cd,cd,qw hV n (λi hi=>h i om),h n om]
theorem wG {f g:GFormula} {i:Nat} (hV:f.Vars=g.Vars) (h:at' f.Nodes (i:Int)=at' g.Nodes (i:Int)):i8 f i=i8 g i:=by
 unfold i8;rw [h,hV]
theorem xO {α β:Type} [Inhabited α] [Inhabited β] {l:List α} {g:α->β} {j:Nat} (h:j<l.length):at' (l.map g) (j:Int)=g (at' l (j:Int)):=by
 simp [at',List.getD_eq_getElem?_getD,h]
theorem GH {Q:GFormula->Option Int->Prop} (g:FG f) (hQ:∀x,FG x->x.Vars=f.Vars->(∀s,FV x s=FV f s)->(∀n:Nat,n<x.Nodes.length->∃k:Nat,k<f.Nodes.length/\∀s,at' (cd x s x.Nodes.length) (f.Vars+n)=at' (cd f s f.Nodes.length) (f.Vars+k))->Q x none):lK f Q:=by
 have v0:=g.v0;have v24:=g.v24;have n128:=g.n128;have t0:=g.top0;have tt:=g.top
 have hl:=kS g f.Nodes.length
 have hb:=oP g f.Nodes.length (Nat.le_refl _)
 obtain ⟨sl,sa⟩:=ym (l:=iN f f.Nodes.length) (a:=f.Vars) om
 have hrl:((bp (f.Vars+(f.Nodes.length:Int)) (0:Int)).length:Int)=f.Vars+f.Nodes.length:=o7 om
 refine eV (by unfold rng;omega) ?_
 rw [jH.2 g]
 refine bi (λhc=>by cases hc) (λ_=>⟨by unfold rng;omega,⟨by omega,by omega,by omega,by omega⟩,?_⟩)
 refine cY (n:=f.Vars.toNat) (λi (y:Int×List Int)=>(y.1=(i:Int)/\(y.2.length:Int)=f.Vars+f.Nodes.length)/\∀v:Nat,v<i->at' y.2 (v:Int)=(v:Int)) (λy=>y.1) 0 (λi y hy=>by rw [hy.1.1];omega) ⟨⟨rfl,hrl⟩,λv hv=>absurd hv om⟩ ?_ ?_
 ·rintro i ⟨x,to⟩ next hi ⟨⟨hx,hl1⟩,hI⟩ hn
  dsimp only at hx hl1 hI
  subst hx
  refine condT (λ_=>⟨by omega,by unfold rng;omega,hn _ ⟨⟨by dsimp only;omega,by dsimp only;rw [d9];exact hl1⟩,λv hv=>?_⟩⟩) (λhc=>absurd (show (i:Int)<f.Vars by omega) hc)
  dsimp only
  rw [jk om]
  split
  ·rename_i he;rw [he]
  ·exact hI v om
 rintro ⟨x,to0⟩ next ⟨⟨hx,hl1⟩,hI⟩
 dsimp only at hx hl1 hI
 subst hx
 refine condT (λhc=>absurd hc om) (λ_=>⟨_,Br g rfl,⟨by omega,by omega,by omega⟩,?_⟩)
 refine cY (n:=f.Nodes.length) (λi (y:Int×List Int×List GNode)=>(y.1=(i:Int)/\(y.2.1.length:Int)=f.Vars+f.Nodes.length/\y.2.2.length<=i)/\(∀v:Nat,(v:Int)<f.Vars->at' y.2.1 (v:Int)=(v:Int))/\(∀n:Nat,n<y.2.2.length->i8 ⟨f.Vars,y.2.2,0⟩ n=0/\∃k:Nat,k<f.Nodes.length/\∀s,at' (cd ⟨f.Vars,y.2.2,0⟩ s y.2.2.length) (f.Vars+n)=at' (cd f s f.Nodes.length) (f.Vars+k))/\
   ∀k:Nat,k<i->at' (iN f f.Nodes.length) (f.Vars+k)=true->(0<=at' y.2.1 (f.Vars+k)/\at' y.2.1 (f.Vars+k)<f.Vars+y.2.2.length)/\∀s,at' (cd ⟨f.Vars,y.2.2,0⟩ s y.2.2.length) (at' y.2.1 (f.Vars+k))=at' (cd f s f.Nodes.length) (f.Vars+k)) (λy=>y.1) 0
  (λi y hy=>by rw [hy.1.1];omega) ⟨⟨rfl,hl1,by simp⟩,λv hv=>hI v om,λn hn=>by simp at hn,λk hk=>absurd hk om⟩ ?_ ?_
 ·rintro i ⟨x,to,x2⟩ next2 hi ⟨⟨hx,hl2,hx2⟩,hV,hN,hK⟩ hn
  dsimp only at hx hl2 hx2 hV hN hK
  subst hx
  have ng:=gC (g.node i hi)
  have hin:=sN g hi
  dsimp only
  rw [sa i om]
  refine condT (λ_=>⟨by omega,bi (λhm=>?_) (λhm=>⟨by omega,?_⟩)⟩) (λhc=>absurd (show (i:Int)<_ by omega) hc)
  ·have hm':at' (iN f f.Nodes.length) (f.Vars+i)=false:=by simpa using hm
   refine ⟨by unfold rng;omega,hn _ ⟨⟨by dsimp only;omega,hl2,by dsimp only;omega⟩,hV,hN,λk hk hmk=>?_⟩⟩
   by_cases hk2:k<i
   ·exact hK k hk2 hmk
   ·obtain rfl:k=i:=om
    rw [hm'] at hmk;cases hmk
  ·have hm':at' (iN f f.Nodes.length) (f.Vars+i)=true:=by simpa using hm
   have ll:=ng.len
   have hcl:=hb.cl i om hi hm'
   have harg:∀a∈(at' f.Nodes (i:Int)).Args,(0<=at' to a/\at' to a<f.Vars+x2.length)/\∀s,at' (cd ⟨f.Vars,x2,0⟩ s x2.length) (at' to a)=at' (cd f s i) a:=λa ha=>by
    have h3:=hin a ha
    by_cases hv:a<f.Vars
    ·obtain ⟨v,rfl⟩:∃v:Nat,a=v:=⟨a.toNat,by omega⟩
     rw [hV v hv]
     refine ⟨by omega,λs=>?_⟩
     rw [gn (f:=⟨f.Vars,x2,0⟩) om hv,gn om hv]
    ·obtain ⟨k,rfl⟩:∃k:Nat,a=f.Vars+k:=⟨(a-f.Vars).toNat,by omega⟩
     obtain ⟨q1,q2⟩:=hK k om (hcl _ ha)
     refine ⟨q1,λs=>?_⟩
     rw [q2,iR (m:=i) om om f.Nodes.length om]
   refine dq (n:=(at' f.Nodes (i:Int)).Args.length) (λj=>((j:Int),((at' f.Nodes (i:Int)).Args.take j).map λa=>at' to a)) (λy=>y.1) 0 (λj=>by dsimp only;omega) rfl (λj next3 hj hn3=>?_) (λnext3=>?_)
   ·have h3:=hin _ (tc hj)
    dsimp only
    refine condT (λ_=>⟨by omega,by omega,by rw [gT,List.length_map,List.length_take];omega,by unfold rng;omega,?_⟩) (λhc=>absurd (show (j:Int)<_ by omega) hc)
    rw [nq hj,List.map_append] at hn3
    exact hn3
   ·refine condT (λhc=>absurd hc om) (λ_=>?_)
    dsimp only
    rw [List.take_length]
    generalize hxn:(⟨(at' f.Nodes (i:Int)).Kind,(at' f.Nodes (i:Int)).K,(at' f.Nodes (i:Int)).Args.map λa=>at' to a⟩:GNode)=xn
    have hlast:at' (x2++[xn]) (x2.length:Int)=xn:=iF
    have hold:∀n:Nat,n<x2.length->at' (x2++[xn]) (n:Int)=at' x2 (n:Int):=λn hn=>eA om om
    have hvo:∀s n,n<=x2.length->cd ⟨f.Vars,x2++[xn],0⟩ s n=cd ⟨f.Vars,x2,0⟩ s n:=λs n hn=>qw (f:=⟨f.Vars,x2++[xn],0⟩) (g:=⟨f.Vars,x2,0⟩) rfl n λk hk=>hold k om
    have hval:∀s,at' (cd ⟨f.Vars,x2++[xn],0⟩ s (x2.length+1)) (f.Vars+x2.length)=at' (cd f s f.Nodes.length) (f.Vars+i):=λs=>by
     have e:=mS (f:=⟨f.Vars,x2++[xn],0⟩) (s:=s) (i:=x2.length) v0 (by simp)
     rw [show (⟨f.Vars,x2++[xn],0⟩:GFormula).Nodes.length=x2.length+1 from gT] at e
     rw [e,mS v0 hi]
     show gd (at' (x2++[xn]) (x2.length:Int)) _=_
     rw [hlast,hvo s _ (Nat.le_refl _),<-hxn]
     unfold gd
     have ec:cnt ⟨(at' f.Nodes (i:Int)).Kind,(at' f.Nodes (i:Int)).K,(at' f.Nodes (i:Int)).Args.map λa=>at' to a⟩ (cd ⟨f.Vars,x2,0⟩ s x2.length) (at' f.Nodes (i:Int)).Args.length=cnt (at' f.Nodes (i:Int)) (cd f s i) (at' f.Nodes (i:Int)).Args.length:=by
      have:∀j,j<=(at' f.Nodes (i:Int)).Args.length->cnt ⟨(at' f.Nodes (i:Int)).Kind,(at' f.Nodes (i:Int)).K,(at' f.Nodes (i:Int)).Args.map λa=>at' to a⟩ (cd ⟨f.Vars,x2,0⟩ s x2.length) j=cnt (at' f.Nodes (i:Int)) (cd f s i) j:=λj=>by
       induction j with
       | zero=>intro _;rfl
       | succ j ih=>
        intro hj
        rw [cnt,cnt,ih om]
        simp only
        rw [xO om,(harg _ (tc om)).2 s]
      exact this _ (Nat.le_refl _)
     simp only [List.length_map]
     rw [ec]
     unfold m7
     simp only [List.length_map]
    refine ⟨by unfold rng;omega,by unfold rng;omega,by omega,by rw [gT];omega,by unfold rng;omega,hn _ ⟨⟨by dsimp only;omega,by dsimp only;rw [d9];exact hl2,by dsimp only;rw [gT];omega⟩,λv hv=>?_,λn hn2=>?_,λk hk hmk=>?_⟩⟩
    ·dsimp only
     rw [jj om om,if_neg om]
     exact hV v hv
    ·dsimp only at hn2 ⊢
     rw [gT] at hn2
     by_cases hlt:n<x2.length
     ·rw [wG (f:=⟨f.Vars,x2++[xn],0⟩) (g:=⟨f.Vars,x2,0⟩) rfl (hold n hlt),gT]
      obtain ⟨q1,k,q2,q3⟩:=hN n hlt
      refine ⟨q1,k,q2,λs=>?_⟩
      rw [iR (m:=x2.length) om (by show _<(f.Vars.toNat:Int)+_;omega) (x2.length+1) om,hvo s _ (Nat.le_refl _)]
      exact q3 s
     ·obtain rfl:n=x2.length:=om
      refine ⟨?_,i,hi,λs=>by rw [gT];exact hval s⟩
      have h0:=g.node i hi
      unfold i8 at h0 ⊢
      simp only [hlast]
      rw [<-hxn]
      simp only [List.length_map]
      split at h0
      ·cases h0
      rename_i c1
      split at h0
      ·cases h0
      rename_i c2
      split at h0
      ·cases h0
      rw [if_neg c1,if_neg c2,if_neg]
      ·exact h0
      ·rintro ⟨j,hj,hc⟩
       rw [xO hj] at hc
       have:=(harg _ (tc hj)).1
       omega
    ·dsimp only
     rw [jj om om,gT]
     by_cases hki:k=i
     ·subst hki
      rw [if_pos rfl]
      exact ⟨by omega,hval⟩
     ·rw [if_neg om]
      obtain ⟨q1,q2⟩:=hK k om hmk
      refine ⟨by omega,λs=>?_⟩
      rw [iR (m:=x2.length) q1.1 (by show _<(f.Vars.toNat:Int)+_;omega) (x2.length+1) om,hvo s _ (Nat.le_refl _)]
      exact q2 s
 ·rintro ⟨x,to,x2⟩ next2 ⟨⟨hx,hl2,hx2⟩,hV,hN,hK⟩
  dsimp only at hx hl2 hx2 hV hN hK
  subst hx
  have hT:(0<=at' to f.Top/\at' to f.Top<f.Vars+x2.length)/\∀s,at' (cd ⟨f.Vars,x2,0⟩ s x2.length) (at' to f.Top)=at' (cd f s f.Nodes.length) f.Top:=by
   by_cases hv:f.Top<f.Vars
   ·obtain ⟨v,hv'⟩:∃v:Nat,f.Top=v:=⟨f.Top.toNat,by omega⟩
    rw [hv'] at hv ⊢
    rw [hV v hv]
    refine ⟨by omega,λs=>?_⟩
    rw [gn (f:=⟨f.Vars,x2,0⟩) om hv,gn om hv]
   ·obtain ⟨k,hk⟩:∃k:Nat,f.Top=f.Vars+k:=⟨(f.Top-f.Vars).toNat,by omega⟩
    have hbt:=hb.top
    rw [hk] at hbt ⊢
    exact hK k om hbt
  refine condT (λhc=>absurd hc om) (λ_=>⟨by omega,hQ _ ⟨v0,v24,by show x2.length<=128;omega,λn hn=>?_,hT.1.1,hT.1.2⟩ rfl (λs=>?_) λn hn=>?_⟩)
  ·rw [wG (f:=⟨f.Vars,x2,at' to f.Top⟩) (g:=⟨f.Vars,x2,0⟩) rfl rfl]
   exact (hN n hn).1
  ·show at' (cd ⟨f.Vars,x2,at' to f.Top⟩ s x2.length) (at' to f.Top)=_
   rw [qw (f:=⟨f.Vars,x2,at' to f.Top⟩) (g:=⟨f.Vars,x2,0⟩) rfl _ (λ_ _=>rfl),hT.2 s]
   rfl
  ·obtain ⟨_,k,q2,q3⟩:=hN n hn
   refine ⟨k,q2,λs=>?_⟩
   show at' (cd ⟨f.Vars,x2,at' to f.Top⟩ s x2.length) _=_
   rw [qw (f:=⟨f.Vars,x2,at' to f.Top⟩) (g:=⟨f.Vars,x2,0⟩) rfl _ (λ_ _=>rfl)]
   exact q3 s
end
end Go.Gg
namespace Go.Gg
theorem EG {σ:Type} {n:Nat} (st:Nat->σ) (ix:σ->Int) (c:Int) (hix:∀i,i<=n->ix (st i)=i+c) {x0:σ} {body:σ->(σ->Prop)->Prop} (h0:x0=st 0)
  (hs:∀i (next:σ->Prop),i<n->next (st (i+1))->body (st i) next) (he:∀(next:σ->Prop),body (st n) next):bf x0 body:=by
 refine ⟨λy=>∃i,i<=n/\y=st i,λy=>n-(ix y-c).toNat,⟨0,Nat.zero_le _,h0⟩,?_⟩
 rintro _ ⟨i,hi,rfl⟩
 rcases Nat.lt_or_ge i n with h | h
 ·refine hs i _ h ⟨⟨i+1,h,rfl⟩,?_⟩
  have h1:=hix i hi
  have h2:=hix (i+1) h
  dsimp only
  rw [h1,h2]
  omega
 ·obtain rfl:i=n:=om
  exact he _
theorem Ag {σ τ:Type} {n:Nat} (Inv:Nat->σ->Prop) (ix:σ->Int) (c:Int) (hix:∀i y,Inv i y->ix y=i+c) {x0:σ} {B:τ->σ->(σ->Prop)->Prop} (h0:Inv 0 x0)
  (hs:∀i x,i<n->Inv i x->∃y,Inv (i+1) y/\∀(Q:τ) (next:σ->Prop),next y->B Q x next):∃y,Inv n y/\∀Q:τ,(∀next,B Q y next)->bf x0 (B Q):=by
 have key:∀k,k<=n->∃st:Nat->σ,st 0=x0/\(∀i,i<=k->Inv i (st i))/\∀i,i<k->∀(Q:τ) (next:σ->Prop),next (st (i+1))->B Q (st i) next:=λk=>by
  induction k with
  | zero=>exact λ_=>⟨λ_=>x0,rfl,λi hi=>(by obtain rfl:i=0:=om;exact h0),λi hi=>absurd hi om⟩
  | succ k ih=>
   intro hk
   obtain ⟨st,a,b,d⟩:=ih om
   obtain ⟨y,hy,w⟩:=hs k (st k) om (b k (Nat.le_refl _))
   refine ⟨λi=>if i<=k then st i else y,by simp [a],λi hi=>?_,λi hi Q next hn=>?_⟩
   ·by_cases h1:i<=k
    ·simp only [h1,if_true];exact b i h1
    ·obtain rfl:i=k+1:=om
     simp only [h1,if_false];exact hy
   ·by_cases h1:i=k
    ·subst h1
     simp only [Nat.le_refl,if_true]
     simp only [show ¬i+1<=i by omega,if_false] at hn
     exact w Q next hn
    ·simp only [show i<=k by omega,if_true]
     simp only [show i+1<=k by omega,if_true] at hn
     exact d i om Q next hn
 obtain ⟨st,a,b,d⟩:=key n (Nat.le_refl _)
 exact ⟨st n,b n (Nat.le_refl _),λQ he=>EG st ix c (λi hi=>hix i _ (b i hi)) a.symm (λi next hi hn=>d i hi Q next hn) he⟩
def Fb (M:Int->Int->List Int->List Int->List GDNode->GMap Int->GMap Int->(List GDNode->GMap Int->GMap Int->Int->Prop)->Prop) (g:Bool->Bool->Bool):Prop:=
 ∀ {o place:List Int} {nodes:List GDNode} {unique memo:GMap Int},TS o place nodes unique memo->o.length<=24->nodes.length<=1099478073344->∀ {a b:Int},Vd nodes a->Vd nodes b->
  ∃nodes' unique' memo' r,After o place nodes nodes' unique' memo' r (λσ=>g (dn nodes a σ) (dn nodes b σ)) 33554432/\
   ∀Q:List GDNode->GMap Int->GMap Int->Int->Prop,Q nodes' unique' memo' r->M a b o place nodes unique memo Q
theorem Es:Fb dz (λx y=>x && y):=by
 intro o place nodes unique memo h hn hb a b ha hb'
 have h1:=qk hn
 obtain ⟨n1,u1,m1,r,ha,w⟩:=Hx h om ha hb'
 exact ⟨n1,u1,m1,r,ha.mono om,w⟩
theorem Gb:Fb dU (λx y=>x || y):=by
 intro o place nodes unique memo h hn hb a b ha hb'
 have h1:=qk hn
 obtain ⟨n1,u1,m1,r,ha,w⟩:=HX h om ha hb'
 exact ⟨n1,u1,m1,r,ha.mono om,w⟩
theorem Er:Fb dw (λx y=>x != y):=by
 intro o place nodes unique memo h hn hb a b ha hb'
 have h1:=qk hn
 obtain ⟨n1,u1,m1,r,ha,w⟩:=Hv h om ha hb'
 exact ⟨n1,u1,m1,r,ha.mono om,w⟩
def Hf (M:Int->Int->List Int->List Int->List GDNode->GMap Int->GMap Int->(List GDNode->GMap Int->GMap Int->Int->Prop)->Prop) (refs:List Int) (first:Int) (order:List Int) (place:List Int) (nodes:List GDNode) (unique:GMap Int) (memo:GMap Int) (Q:List GDNode->GMap Int->GMap Int->Int->Prop):Prop:=
 bf (σ:=Int×Int×(List GDNode)×(GMap Int)×(GMap Int)) (first,0,nodes,unique,memo) λ⟨first1,x,x1,x2,x3⟩ next1=>
  ak (decide (x<(refs.length:Int)))
   (((0:Int)<=x/\x<(refs.length:Int))/\
   M first1 (at' refs x) order place x1 x2 x3 λu u1 u2 first2=>
   rng (x+1)/\
   next1 (first2,(x+1),u,u1,u2))
   (Q x1 x2 x3 first1)
def rq (g:Bool->Bool->Bool) (c:Bool) (b:Nat->Bool):Nat->Bool
 | 0=>c
 | i+1=>g (rq g c b i) (b i)
section
variable {o place:List Int} {nodes:List GDNode} {unique memo:GMap Int}
theorem z6 {M:Int->Int->List Int->List Int->List GDNode->GMap Int->GMap Int->(List GDNode->GMap Int->GMap Int->Int->Prop)->Prop} {g:Bool->Bool->Bool} (hM:Fb M g) (h:TS o place nodes unique memo) (hn:o.length<=24) {refs:List Int} {first:Int} {c:Bool} (hl:refs.length<=16)
  (hb:nodes.length<=549755813888) (hf:Vd nodes first) (hc:dn nodes first=λ_=>c) (hr:∀j:Nat,j<refs.length->Vd nodes (at' refs (j:Int))) :
  ∃nodes' unique' memo' r,After o place nodes nodes' unique' memo' r (λσ=>rq g c (λj=>dn nodes (at' refs (j:Int)) σ) refs.length) 4294967296/\
   ∀Q:List GDNode->GMap Int->GMap Int->Int->Prop,Q nodes' unique' memo' r->Hf M refs first o place nodes unique memo Q:=by
 obtain ⟨⟨r,x,n1,u1,m1⟩,⟨⟨hx,hT⟩,hP,hV,hD,hL⟩,w⟩:=Ag (τ:=List GDNode->GMap Int->GMap Int->Int->Prop) (n:=refs.length) (x0:=(first,0,nodes,unique,memo))
  (λi (y:Int×Int×(List GDNode)×(GMap Int)×(GMap Int))=>(y.2.1=(i:Int)/\TS o place y.2.2.1 y.2.2.2.1 y.2.2.2.2)/\Pre nodes y.2.2.1/\Vd y.2.2.1 y.1/\dn y.2.2.1 y.1=(λσ=>rq g c (λj=>dn nodes (at' refs (j:Int)) σ) i)/\y.2.2.1.length<=nodes.length+33554432*i)
  (λy=>y.2.1) 0 (λi y hy=>by rw [hy.1.1];omega)
  (B:=λQ=>λ⟨first1,x,x1,x2,x3⟩ next1=>
  ak (decide (x<(refs.length:Int)))
   (((0:Int)<=x/\x<(refs.length:Int))/\
   M first1 (at' refs x) o place x1 x2 x3 λu u1 u2 first2=>
   rng (x+1)/\
   next1 (first2,(x+1),u,u1,u2))
   (Q x1 x2 x3 first1))
  ⟨⟨rfl,h⟩,Pre.refl _,hf,hc,by dsimp only;omega⟩ (by
   rintro i ⟨r,x,n1,u1,m1⟩ hi ⟨⟨hx,hT⟩,hP,hV,hD,hL⟩
   dsimp only at hx hT hP hV hD hL
   subst hx
   have hri:=hr i hi
   have hi16:i<16:=Nat.lt_of_lt_of_le hi hl
   have hL2:n1.length<=550292684800:=Nat.le_trans hL om
   obtain ⟨n2,u2,m2,r2,a2,w2⟩:=hM hT hn (Nat.le_trans hL2 (by decide)) hV (hri.pre hP)
   have l2:=a2.le
   refine ⟨(r2,(i:Int)+1,n2,u2,m2),⟨⟨by dsimp only;omega,a2.ts⟩,hP.trans a2.pre,a2.vd,?_,Nat.le_trans l2 om⟩,λQ next hn=>condT (λ_=>⟨by omega,w2 _ ⟨by unfold rng;omega,hn⟩⟩) (λhc=>absurd (show (i:Int)<refs.length by omega) hc)⟩
   dsimp only
   rw [a2.dn,hD,fG hri hP]
   rfl)
 dsimp only at hx hT hP hV hD hL
 subst hx
 exact ⟨n1,u1,m1,r,⟨hT,hP,hV,hD,Nat.le_trans hL om⟩,λQ hQ=>w Q λnext=>condT (λhc=>absurd hc om) (λ_=>hQ)⟩
def j7 (b:Nat->Bool):Nat->Nat
 | 0=>0
 | i+1=>j7 b i+(if b i=true then 1 else 0)
theorem Bp {b:Nat->Bool}:∀i,j7 b i<=i
 | 0=>Nat.le_refl _
 | i+1=>by have:=Bp (b:=b) i;rw [j7];split<;>omega
theorem zg {b:Nat->Bool}:∀i,rq (λx y=>x && y) true b i=decide (j7 b i=i)
 | 0=>rfl
 | i+1=>by
  have:=Bp (b:=b) i
  rw [rq,zg i,j7]
  cases hb:b i
  ·rw [Bool.and_false,if_neg (by simp)];exact (decide_eq_false om).symm
  ·rw [Bool.and_true,if_pos rfl];exact decide_eq_decide.2 om
theorem Bc {b:Nat->Bool}:∀i,rq (λx y=>x || y) false b i=decide (0<j7 b i)
 | 0=>rfl
 | i+1=>by
  rw [rq,Bc i,j7]
  cases hb:b i
  ·rw [Bool.or_false,if_neg (by simp)];rfl
  ·rw [Bool.or_true,if_pos rfl];exact (decide_eq_true om).symm
theorem zf {b:Nat->Bool}:∀i,rq (λx y=>x != y) false b i=decide (j7 b i % 2=1)
 | 0=>rfl
 | i+1=>by
  rw [rq,zf i,j7]
  cases hb:b i
  ·rw [if_neg (by simp),Nat.add_zero];simp
  ·rw [if_pos rfl]
   rcases Nat.mod_two_eq_zero_or_one (j7 b i) with h1 | h1
   ·rw [decide_eq_false om,decide_eq_true om];rfl
   ·rw [decide_eq_true h1,decide_eq_false om];rfl
end
end Go.Gg
namespace Go.Gg
section
variable {N:List GDNode}
structure CubeOk (n:Nat) (c:GCube):Prop where
 yes:0<=c.Yes/\c.Yes.toNat<2^n
 no:0<=c.No/\c.No.toNat<2^n
 dis:c.Yes.toNat &&& c.No.toNat=0
end
end Go.Gg
namespace Go.Gg
section
variable {o:List Int} {f:Asg->Bool}
end
end Go.Gg
namespace Go.Gg
theorem zo {x:GNode} {v:List Bool}:∀j,cnt x v j=j7 (λk=>at' v (at' x.Args (k:Int))) j
 | 0=>rfl
 | j+1=>by rw [cnt,j7,zo j]
theorem vu {b c:Nat->Bool}:∀j,(∀k,k<j->b k=c k)->j7 b j=j7 c j
 | 0,_=>rfl
 | j+1,h=>by rw [j7,j7,vu j (λk hk=>h k om),h j om]
section
variable {o place:List Int} {nodes:List GDNode} {unique memo:GMap Int}
structure Need (nodes:List GDNode) (need:List Int) (k:Nat) (lo:Nat) (a b:Asg->Nat):Prop where
 len:need.length=k+1
 vd:∀m:Nat,m<=k->Vd nodes (at' need (m:Int))
 dn:∀m:Nat,m<=k->dn nodes (at' need (m:Int))=λσ=>decide (m<=(if m<=lo then a σ else b σ))
theorem BU {nodes':List GDNode} {need:List Int} {k lo:Nat} {a b:Asg->Nat} {c:Asg->Bool} {r:Int} (h:Need nodes need k (lo+1) a b) (hlo:lo+1<=k) (hp:Pre nodes nodes') (hv:Vd nodes' r)
  (hab:∀σ,b σ=a σ+(if c σ=true then 1 else 0)) (hd:dn nodes' r=λσ=>bif c σ then dn nodes (at' need (lo:Int)) σ else dn nodes (at' need ((lo+1:Nat):Int)) σ):Need nodes' (bn need ((lo+1:Nat):Int) r) k lo a b:=by
 have hl:=h.len
 refine ⟨by rw [d9];exact hl,λm hm=>?_,λm hm=>?_⟩
 ·rw [jk om]
  split
  ·exact hv
  ·exact (h.vd m hm).pre hp
 ·rw [jk om]
  by_cases he:m=lo+1
  ·subst he
   rw [if_pos rfl,hd,h.dn lo om,h.dn (lo+1) hm]
   funext σ
   dsimp only
   rw [if_pos (by omega:lo<=lo+1),if_pos (Nat.le_refl (lo+1)),if_neg (by omega:¬lo+1<=lo),hab]
   cases c σ
   ·simp
   ·simp
  ·rw [if_neg he,fG (h.vd m hm) hp,h.dn m hm]
   funext σ
   by_cases h1:m<=lo
   ·rw [if_pos om,if_pos h1]
   ·rw [if_neg om,if_neg h1]
theorem FP (h:TS o place nodes unique memo) (hn:o.length<=24) {refs:List Int} {k:Nat} (hk:k<=16) (hl:refs.length<=16) (hb:nodes.length<=549755813888)
  (hr:∀j:Nat,j<refs.length->Vd nodes (at' refs (j:Int))) :
  ∃nodes' unique' memo' r,After o place nodes nodes' unique' memo' r (λσ=>decide (k<=j7 (λj=>dn nodes (at' refs (j:Int)) σ) refs.length)) 4294967296/\
   ∀Q:List GDNode->GMap Int->GMap Int->Int->Prop,Q nodes' unique' memo' r->jc refs (k:Int) o place nodes unique memo Q:=by
 have w12:=qk hn
 have hrl:((bp ((k:Int)+1) (0:Int)).length:Int)=k+1:=o7 om
 have start:Need nodes (bn (bp ((k:Int)+1) 0) 0 1) k k (λσ=>j7 (λj=>dn nodes (at' refs (j:Int)) σ) 0) (λσ=>j7 (λj=>dn nodes (at' refs (j:Int)) σ) 0):=by
  have e:∀m:Nat,m<=k->at' (bn (bp ((k:Int)+1) (0:Int)) 0 1) (m:Int)=if m=0 then 1 else 0:=λm hm=>by
   have:=jk (l:=bp ((k:Int)+1) (0:Int)) (i:=0) (x:=1) (j:=m) om
   rw [show ((0:Nat):Int)=0 from rfl] at this
   rw [this]
   by_cases h0:m=0
   ·rw [if_pos h0,if_pos h0]
   ·rw [if_neg h0,if_neg h0,zJ om]
  refine ⟨by rw [d9];omega,λm hm=>?_,λm hm=>?_⟩
  ·rw [e m hm];split
   ·exact vd1
   ·exact vd0
  ·rw [e m hm]
   by_cases h0:m=0
   ·subst h0;rw [if_pos rfl,dn1];rfl
   ·rw [if_neg h0,dn0];funext σ;simp [j7,h0]
 obtain ⟨⟨x,need,n1,u1,m1⟩,⟨⟨hx,hT⟩,hP,hN,hL⟩,w⟩:=Ag (τ:=List GDNode->GMap Int->GMap Int->Int->Prop) (n:=refs.length) (x0:=((0:Int),bn (bp ((k:Int)+1) 0) 0 1,nodes,unique,memo))
  (λi (y:Int×List Int×(List GDNode)×(GMap Int)×(GMap Int))=>(y.1=(i:Int)/\TS o place y.2.2.1 y.2.2.2.1 y.2.2.2.2)/\Pre nodes y.2.2.1/\Need y.2.2.1 y.2.1 k k (λσ=>j7 (λj=>dn nodes (at' refs (j:Int)) σ) i) (λσ=>j7 (λj=>dn nodes (at' refs (j:Int)) σ) i)/\y.2.2.1.length<=nodes.length+268435456*i)
  (λy=>y.1) 0 (λi y hy=>by rw [hy.1.1];omega)
  (B:=λQ=>λ⟨x,need,x1,x2,x3⟩ next1=>
  ak (decide (x<(refs.length:Int)))
   (((0:Int)<=x/\x<(refs.length:Int))/\
   bf (σ:=Int×(List Int)×(List GDNode)×(GMap Int)×(GMap Int)) ((k:Int),need,x1,x2,x3) λ⟨j,need1,x4,x5,x6⟩ next2=>
    ak (decide (0<j))
     (rng (j-1)/\
     ((0:Int)<=(j-1)/\(j-1)<(need1.length:Int))/\
     ((0:Int)<=j/\j<(need1.length:Int))/\
     ∃u u1 u2 r,(∃fu,aD fu (at' refs x) (at' need1 (j-1)) (at' need1 j) o place x4 x5 x6 λy1 y2 y3 y4=>y1=u/\y2=u1/\y3=u2/\y4=r)/\
     ((0:Int)<=j/\j<(need1.length:Int))/\
     rng (j-1)/\
     next2 ((j-1),(bn need1 j r),u,u1,u2))
     (rng (x+1)/\
     next1 ((x+1),need1,x4,x5,x6)))
   (((0:Int)<=(k:Int)/\(k:Int)<(need.length:Int))/\
   Q x1 x2 x3 (at' need (k:Int))))
  ⟨⟨rfl,h⟩,Pre.refl _,start,by dsimp only;omega⟩ (by
   rintro i ⟨x,need,n1,u1,m1⟩ hi ⟨⟨hx,hT⟩,hP,hN,hL⟩
   dsimp only at hx hT hP hN hL
   subst hx
   have hri:=hr i hi
   have hi16:i<16:=Nat.lt_of_lt_of_le hi hl
   have hL2:n1.length<=554050781184:=Nat.le_trans hL om
   obtain ⟨⟨j,need2,n2,u2,m2⟩,⟨⟨hj,hT2⟩,hP2,hN2,hL3⟩,w2⟩:=Ag (τ:=Int×(List Int)×(List GDNode)×(GMap Int)×(GMap Int)->Prop) (n:=k) (x0:=((k:Int),need,n1,u1,m1))
    (λa (y:Int×List Int×(List GDNode)×(GMap Int)×(GMap Int))=>(y.1=(k:Int)-a/\TS o place y.2.2.1 y.2.2.2.1 y.2.2.2.2)/\Pre n1 y.2.2.1/\Need y.2.2.1 y.2.1 k (k-a) (λσ=>j7 (λj=>dn nodes (at' refs (j:Int)) σ) i) (λσ=>j7 (λj=>dn nodes (at' refs (j:Int)) σ) (i+1))/\y.2.2.1.length<=n1.length+16777216*a)
    (λy=>-y.1) (-(k:Int)) (λa y hy=>by rw [hy.1.1];omega)
    (B:=λN2=>λ⟨j,need1,x4,x5,x6⟩ next2=>
    ak (decide (0<j))
     (rng (j-1)/\
     ((0:Int)<=(j-1)/\(j-1)<(need1.length:Int))/\
     ((0:Int)<=j/\j<(need1.length:Int))/\
     ∃u u1 u2 r,(∃fu,aD fu (at' refs (i:Int)) (at' need1 (j-1)) (at' need1 j) o place x4 x5 x6 λy1 y2 y3 y4=>y1=u/\y2=u1/\y3=u2/\y4=r)/\
     ((0:Int)<=j/\j<(need1.length:Int))/\
     rng (j-1)/\
     next2 ((j-1),(bn need1 j r),u,u1,u2))
     (rng ((i:Int)+1)/\
     N2 (((i:Int)+1),need1,x4,x5,x6)))
    ⟨⟨by simp,hT⟩,Pre.refl _,⟨hN.len,hN.vd,λm hm=>by
     have:=hN.dn m hm
     rw [this];funext σ
     rw [if_pos hm,if_pos om]⟩,by dsimp only;omega⟩ (by
     rintro a ⟨j,need2,n2,u2,m2⟩ ha ⟨⟨hj,hT2⟩,hP2,hN2,hL3⟩
     dsimp only at hj hT2 hP2 hN2 hL3
     obtain ⟨lo,hlo⟩:∃lo,k-a=lo+1:=⟨k-a-1,by omega⟩
     obtain rfl:j=((lo+1:Nat):Int):=om
     rw [hlo] at hN2
     have hlo2:lo+1<=k:=om
     have e1:((lo+1:Nat):Int)-1=(lo:Int):=om
     have hl2:=hN2.len
     obtain ⟨n3,u3,m3,r3,a3,w3⟩:=o3 hT2 (Nat.le_trans (Nat.add_le_add hL3 w12) om) ((hri.pre hP).pre hP2) (hN2.vd lo om) (hN2.vd (lo+1) hlo2)
     have l3:=a3.le
     refine ⟨((lo:Int),bn need2 ((lo+1:Nat):Int) r3,n3,u3,m3),⟨⟨by dsimp only;omega,a3.ts⟩,hP2.trans a3.pre,?_,Nat.le_trans l3 om⟩,λN2 next hn=>condT (λ_=>?_) (λhc=>absurd (show (0:Int)<_ by omega) hc)⟩
     ·dsimp only
      rw [show k-(a+1)=lo by omega]
      exact BU hN2 (c:=dn nodes (at' refs (i:Int))) hlo2 a3.pre a3.vd (λσ=>rfl) (by rw [a3.dn,fG (hri.pre hP) hP2,fG hri hP])
     ·rw [e1]
      exact ⟨by unfold rng;omega,by omega,by omega,n3,u3,m3,r3,w3 _ ⟨rfl,rfl,rfl,rfl⟩,by omega,by unfold rng;omega,hn⟩)
   dsimp only at hj hT2 hP2 hN2 hL3
   have hL4:n2.length<=n1.length+268435456:=Nat.le_trans hL3 om
   refine ⟨((i:Int)+1,need2,n2,u2,m2),⟨⟨by dsimp only;omega,hT2⟩,hP.trans hP2,⟨hN2.len,hN2.vd,λm hm=>?_⟩,Nat.le_trans hL4 om⟩,λQ next hn=>condT (λ_=>⟨by omega,w2 _ λnext2=>condT (λhc=>absurd hc om) (λ_=>⟨by unfold rng;omega,hn⟩)⟩) (λhc=>absurd (show (i:Int)<refs.length by omega) hc)⟩
   rw [hN2.dn m hm]
   funext σ
   rw [if_pos hm]
   by_cases h0:m=0
   ·subst h0;simp
   ·rw [if_neg om])
 dsimp only at hx hT hP hN hL
 subst hx
 have hrl2:=hN.len
 refine ⟨n1,u1,m1,at' need (k:Int),⟨hT,hP,hN.vd k (Nat.le_refl _),?_,Nat.le_trans hL om⟩,λQ hQ=>⟨by unfold rng;omega,⟨by omega,by omega,by omega,by omega⟩,by omega,w Q λnext=>condT (λhc=>absurd hc om) (λ_=>⟨by omega,hQ⟩)⟩⟩
 rw [hN.dn k (Nat.le_refl _)]
 funext σ
 rw [if_pos (Nat.le_refl _)]
theorem Ex {f:GFormula} {i:Nat} (h:i8 f i=0):((at' f.Nodes (i:Int)).Kind=0->(at' f.Nodes (i:Int)).K=0\/(at' f.Nodes (i:Int)).K=1)/\((at' f.Nodes (i:Int)).Kind=4->1<=(at' f.Nodes (i:Int)).K/\(at' f.Nodes (i:Int)).K<=((at' f.Nodes (i:Int)).Args.length:Int)):=by
 unfold i8 at h
 split at h
 ·cases h
 split at h
 ·cases h
 split at h
 ·cases h
 split at h
 ·split at h
  ·cases h
  ·exact ⟨λ_=>om,λhc=>om⟩
 split at h
 ·split at h
  ·cases h
  ·exact ⟨λhc=>om,λ_=>om⟩
 ·exact ⟨λhc=>om,λhc=>om⟩
theorem Gj (h:TS o place nodes unique memo) (hn:o.length<=24) {x:GNode} {refs:List Int} {V:Asg->List Bool} (hk:0<=x.Kind/\x.Kind<=5) (hK:(x.Kind=0->x.K=0\/x.K=1)/\(x.Kind=4->1<=x.K/\x.K<=(x.Args.length:Int)))
  (ha:lR x.Kind x.Args.length=true) (hl:refs.length=x.Args.length) (h16:x.Args.length<=16) (hb:nodes.length<=549755813888) (hr:∀j:Nat,j<refs.length->Vd nodes (at' refs (j:Int))/\dn nodes (at' refs (j:Int))=λσ=>at' (V σ) (at' x.Args (j:Int))) :
  ∃nodes' unique' memo' r,After o place nodes nodes' unique' memo' r (λσ=>gd x (V σ)) 4294967296/\
   ∀Q:List GDNode->GMap Int->GMap Int->Int->Prop,Q nodes' unique' memo' r->gg x refs o place nodes unique memo Q:=by
 have w12:=qk hn
 have hc:∀σ,j7 (λj=>dn nodes (at' refs (j:Int)) σ) refs.length=cnt x (V σ) x.Args.length:=λσ=>by
  rw [zo,hl]
  exact vu _ λj hj=>by rw [(hr j om).2]
 have hr1:=λj hj=>(hr j hj).1
 rcases (by omega:x.Kind=0\/x.Kind=1\/x.Kind=2\/x.Kind=3\/x.Kind=5\/x.Kind=4) with k | k | k | k | k | k
 ·rcases hK.1 k with e | e
  ·refine ⟨nodes,unique,memo,0,⟨h,Pre.refl _,vd0,?_,by omega⟩,λQ hQ=>bi (λ_=>by rw [e];exact hQ) (λhf=>by simp [k] at hf)⟩
   rw [dn0];funext σ;simp [gd,m7,k,e]
  ·refine ⟨nodes,unique,memo,1,⟨h,Pre.refl _,vd1,?_,by omega⟩,λQ hQ=>bi (λ_=>by rw [e];exact hQ) (λhf=>by simp [k] at hf)⟩
   rw [dn1];funext σ;simp [gd,m7,k,e]
 ·have h1:x.Args.length=1:=by simpa [lR,k] using ha
  obtain ⟨n1,u1,m1,r,a,w⟩:=FD h om (hr 0 om).1
  refine ⟨n1,u1,m1,r,⟨a.ts,a.pre,a.vd,?_,by have:=a.le;omega⟩,λQ hQ=>bi (λhf=>by simp [k] at hf) (λ_=>bi (λ_=>⟨by omega,w _ hQ⟩) (λhf=>by simp [k] at hf))⟩
  rw [a.dn];funext σ
  have:=hc σ
  rw [hl,h1] at this
  rw [gd,h1,<-this]
  simp only [m7,k,j7]
  show _=((((0+if dn nodes (at' refs ((0:Nat):Int)) σ=true then 1 else 0):Nat):Int) == 0)
  cases dn nodes (at' refs ((0:Nat):Int)) σ<;>rfl
 ·obtain ⟨n1,u1,m1,r,a,w⟩:=z6 Es h hn (refs:=refs) (first:=1) (c:=true) om hb vd1 dn1 hr1
  refine ⟨n1,u1,m1,r,⟨a.ts,a.pre,a.vd,?_,a.le⟩,λQ hQ=>bi (λhf=>by simp [k] at hf) (λ_=>bi (λhf=>by simp [k] at hf) (λ_=>bi (λ_=>w Q hQ) (λhf=>by simp [k] at hf)))⟩
  rw [a.dn];funext σ
  rw [zg,hc σ,gd,hl]
  simp only [m7,k]
  rw [Bool.eq_iff_iff];simp;omega
 ·obtain ⟨n1,u1,m1,r,a,w⟩:=z6 Gb h hn (refs:=refs) (first:=0) (c:=false) om hb vd0 dn0 hr1
  refine ⟨n1,u1,m1,r,⟨a.ts,a.pre,a.vd,?_,a.le⟩,λQ hQ=>bi (λhf=>by simp [k] at hf) (λ_=>bi (λhf=>by simp [k] at hf) (λ_=>bi (λhf=>by simp [k] at hf) (λ_=>bi (λ_=>w Q hQ) (λhf=>by simp [k] at hf))))⟩
  rw [a.dn];funext σ
  rw [Bc,hc σ,gd]
  simp only [m7,k]
  rw [Bool.eq_iff_iff];simp
 ·obtain ⟨n1,u1,m1,r,a,w⟩:=z6 Er h hn (refs:=refs) (first:=0) (c:=false) om hb vd0 dn0 hr1
  refine ⟨n1,u1,m1,r,⟨a.ts,a.pre,a.vd,?_,a.le⟩,λQ hQ=>bi (λhf=>by simp [k] at hf) (λ_=>bi (λhf=>by simp [k] at hf) (λ_=>bi (λhf=>by simp [k] at hf) (λ_=>bi (λhf=>by simp [k] at hf) (λ_=>bi (λ_=>w Q hQ) (λhf=>by simp [k] at hf)))))⟩
  rw [a.dn];funext σ
  rw [zf,hc σ,gd]
  simp only [m7,k]
  rw [Bool.eq_iff_iff]
  have:=Int.tmod_eq_emod_of_nonneg (a:=((cnt x (V σ) x.Args.length:Nat):Int)) (b:=2) om
  simp [this];omega
 ·have k4:=hK.2 k
  obtain ⟨kk,hkk⟩:∃kk:Nat,x.K=kk:=⟨x.K.toNat,by omega⟩
  obtain ⟨n1,u1,m1,r,a,w⟩:=FP h hn (refs:=refs) (k:=kk) om om hb hr1
  refine ⟨n1,u1,m1,r,⟨a.ts,a.pre,a.vd,?_,a.le⟩,λQ hQ=>bi (λhf=>by simp [k] at hf) (λ_=>bi (λhf=>by simp [k] at hf) (λ_=>bi (λhf=>by simp [k] at hf) (λ_=>bi (λhf=>by simp [k] at hf) (λ_=>bi (λhf=>by simp [k] at hf) (λ_=>by rw [hkk];exact w Q hQ)))))⟩
  rw [a.dn];funext σ
  rw [hc σ,gd]
  simp only [m7,k,hkk]
  rw [Bool.eq_iff_iff];simp
end
end Go.Gg
namespace Go.Gg
def nQ (f:GFormula) (o:List Int):Int:=if jr f≠0 then jr f else tG o f.Vars
def fF (f:GFormula):Asg->Bool:=λσ=>FV f (jg σ f.Vars.toNat)
theorem oU {f:GFormula} {o:List Int}:nQ f o=0↔FG f/\Or14 o/\(o.length:Int)=f.Vars:=by
 unfold nQ
 constructor
 ·intro h
  split at h
  ·rename_i hc;exact absurd h hc
  ·rename_i hc
   have hl:(o.length:Int)=f.Vars:=by
    unfold tG at h
    split at h
    ·cases h
    split at h
    ·cases h
    ·rename_i hn;omega
   rw [<-hl] at h
   exact ⟨jH.1 om,BJ h,hl⟩
 ·rintro ⟨g,h,hl⟩
  rw [if_neg (by rw [jH.2 g];simp),<-hl]
  exact En h
theorem Gt {f:GFormula} {o:List Int} (h:Or14 o) (hl:(o.length:Int)=f.Vars):Dep (fF f) (jp o):=λσ σ' hh=>by
 unfold fF
 rw [vD λv hv=>hh v (h.all om)]
def oL (x:GFormula) (i:Nat):Asg->Bool:=λσ=>at' (cd x (jg σ x.Vars.toNat) x.Nodes.length) (x.Vars+i)
def pm (o:List Int) (F:Asg->Bool):Prop:=∀(place:List Int) (nodes:List GDNode) (unique memo:GMap Int) (r:Int) (Q:Bool->Prop),TS o place nodes unique memo->nodes.length<=1099511627776->Vd nodes r->dn nodes r=F->Q true->cb r 4096 o place nodes unique memo Q
theorem B_ {o place:List Int} {nodes:List GDNode} {unique memo:GMap Int} (h:TS o place nodes unique memo) (hb:nodes.length<=1099511627776) {r:Int} (hr:Vd nodes r) {Q:Bool->Prop} (hQ:∀b,Q b):cb r 4096 o place nodes unique memo Q:=by
 obtain ⟨s,c,w⟩:=Ca h hb o.length (o.length+1) (seen:=iQ) (r:=r) (most:=4096) om hr om
 exact ⟨o.length+1,w _ (hQ _)⟩
section
variable {f:GFormula} {o:List Int}
theorem zy {x:GFormula} {place:List Int} {Q:GDiagram->Option Int->Prop} (g:FG x) (hl:(o.length:Int)=x.Vars) (hS:(∀i:Nat,i<x.Nodes.length->pm o (oL x i))\/Q noD (some 4)) (hT:TS o place [] iQ iQ) (hQ:Q (vz o (fF x)) none) :
  bf (σ:=Int×(List Int)×(GMap Int)×(List GDNode)) (0,(bp (x.Vars+(x.Nodes.length:Int)) 0),iQ,[]) λ⟨x1,refs,x2,x3⟩ next1=>
     ak (decide (x1<x.Vars))
      (c6 x1 o place x3 x2 iQ λu u1 r3=>
      ((0:Int)<=x1/\x1<(refs.length:Int))/\
      rng (x1+1)/\
      next1 ((x1+1),(bn refs x1 r3),u1,u))
      (bf (σ:=Int×(List Int)×(GMap Int)×(GMap Int)×(List GDNode)) (0,refs,x2,iQ,x3) λ⟨x4,refs1,x5,x6,x7⟩ next2=>
       ak (decide (x4<(x.Nodes.length:Int)))
        (((0:Int)<=x4/\x4<(x.Nodes.length:Int))/\
        bf (σ:=Int×(List Int)) (0,[]) λ⟨x8,args⟩ next3=>
         ak (decide (x8<(((at' x.Nodes x4).Args).length:Int)))
          (((0:Int)<=x8/\x8<(((at' x.Nodes x4).Args).length:Int))/\
          ((0:Int)<=(at' ((at' x.Nodes x4).Args) x8)/\(at' ((at' x.Nodes x4).Args) x8)<(refs1.length:Int))/\
          ((args++[(at' refs1 (at' ((at' x.Nodes x4).Args) x8))]).length*8<=140737488355328)/\
          rng (x8+1)/\
          next3 ((x8+1),(args++[(at' refs1 (at' ((at' x.Nodes x4).Args) x8))])))
          (rng (x.Vars+x4)/\
          ∃u2 u3 u4 r4,(gg (at' x.Nodes x4) args o place x7 x5 x6 λy1 y2 y3 y4=>y1=u2/\y2=u3/\y3=u4/\y4=r4)/\
          ((0:Int)<=(x.Vars+x4)/\(x.Vars+x4)<(refs1.length:Int))/\
          rng (x.Vars+x4)/\
          ((0:Int)<=(x.Vars+x4)/\(x.Vars+x4)<(refs1.length:Int))/\
          cb (at' (bn refs1 (x.Vars+x4) r4) (x.Vars+x4)) 4096 o place u2 u3 u4 λr5=>
          ak (!r5)
           (Q (⟨[],[],0⟩:GDiagram) (some 4))
           (rng (x4+1)/\
           next2 ((x4+1),(bn refs1 (x.Vars+x4) r4),u3,u4,u2))))
        (((0:Int)<=x.Top/\x.Top<(refs1.length:Int))/\
        c5 (at' refs1 x.Top) o place x7 x5 x6 λr6=>
        Q r6 none)):=by
 have v0:=g.v0;have v24:=g.v24;have n128:=g.n128
 have hn:o.length<=24:=om
 obtain ⟨nv,hnv⟩:∃nv:Nat,x.Vars=nv:=⟨x.Vars.toNat,by omega⟩
 have hrl:((bp (x.Vars+(x.Nodes.length:Int)) (0:Int)).length:Int)=x.Vars+x.Nodes.length:=o7 om
 refine cY (n:=nv) (λi (y:Int×List Int×GMap Int×List GDNode)=>(y.1=(i:Int)/\(y.2.1.length:Int)=x.Vars+x.Nodes.length/\y.2.2.2.length<=i/\TS o place y.2.2.2 y.2.2.1 iQ)/\∀v:Nat,v<i->Vd y.2.2.2 (at' y.2.1 (v:Int))/\dn y.2.2.2 (at' y.2.1 (v:Int))=λσ=>σ v) (λy=>y.1) 0 (λi y hy=>by rw [hy.1.1];omega) ⟨⟨rfl,hrl,Nat.zero_le _,hT⟩,λv hv=>absurd hv om⟩ ?_ ?_
 ·rintro i ⟨x1,refs,u1,n1⟩ next hi ⟨⟨hx,hl1,hl2,hT1⟩,hI⟩ hn1
  dsimp only at hx hl1 hl2 hT1 hI
  subst hx
  obtain ⟨n2,u2,r2,a,w⟩:=Ff hT1 om (v:=(i:Int)) om
  have:=a.le
  refine condT (λ_=>w _ ⟨by omega,by unfold rng;omega,hn1 _ ⟨⟨by dsimp only;omega,by dsimp only;rw [d9];exact hl1,by dsimp only;omega,a.ts⟩,λv hv=>?_⟩⟩) (λhc=>absurd (show (i:Int)<x.Vars by omega) hc)
  dsimp only
  rw [jk om]
  split
  ·rename_i he;subst he
   exact ⟨a.vd,a.dn⟩
  ·have h1:=hI v om
   exact ⟨h1.1.pre a.pre,by rw [fG h1.1 a.pre,h1.2]⟩
 rintro ⟨x1,refs,u1,n1⟩ next ⟨⟨hx,hl1,hl2,hT1⟩,hI⟩
 dsimp only at hx hl1 hl2 hT1 hI
 subst hx
 refine condT (λhc=>absurd hc om) (λ_=>?_)
 refine cY (n:=x.Nodes.length) (λi (y:Int×List Int×GMap Int×GMap Int×List GDNode)=>(y.1=(i:Int)/\(y.2.1.length:Int)=x.Vars+x.Nodes.length/\y.2.2.2.2.length<=24+4294967296*i/\TS o place y.2.2.2.2 y.2.2.1 y.2.2.2.1)/\∀a:Nat,(a:Int)<x.Vars+i->Vd y.2.2.2.2 (at' y.2.1 (a:Int))/\dn y.2.2.2.2 (at' y.2.1 (a:Int))=λσ=>at' (cd x (jg σ nv) i) (a:Int)) (λy=>y.1) 0
  (λi y hy=>by rw [hy.1.1];omega) ⟨⟨rfl,hl1,by dsimp only;omega,hT1⟩,λa ha=>?_⟩ ?_ ?_
 ·dsimp only
  have h1:=hI a om
  refine ⟨h1.1,?_⟩
  rw [h1.2]
  funext σ
  rw [gn om om,Int.toNat_natCast,xM om]
 ·rintro i ⟨x4,refs1,u5,m5,n5⟩ next2 hi ⟨⟨hx,hr1,hl5,hT5⟩,hA⟩ hn2
  dsimp only at hx hr1 hl5 hT5 hA
  subst hx
  have ng:=gC (g.node i hi)
  have hin:=sN g hi
  have ll:=ng.len
  have hi128:i<128:=om
  have hl6:n5.length<=549755813888:=Nat.le_trans hl5 om
  refine condT (λ_=>⟨by omega,?_⟩) (λhc=>absurd (show (i:Int)<_ by omega) hc)
  refine dq (n:=(at' x.Nodes (i:Int)).Args.length) (λj=>((j:Int),((at' x.Nodes (i:Int)).Args.take j).map λa=>at' refs1 a)) (λy=>y.1) 0 (λj=>by dsimp only;omega) rfl (λj next3 hj hn3=>?_) (λnext3=>?_)
  ·have h3:=hin _ (tc hj)
   dsimp only
   refine condT (λ_=>⟨by omega,by omega,by rw [gT,List.length_map,List.length_take];omega,by unfold rng;omega,?_⟩) (λhc=>absurd (show (j:Int)<_ by omega) hc)
   rw [nq hj,List.map_append] at hn3
   exact hn3
  ·refine condT (λhc=>absurd hc om) (λ_=>?_)
   rw [List.take_length]
   obtain ⟨n6,u6,m6,r6,a,w⟩:=Gj hT5 hn (x:=at' x.Nodes (i:Int)) (refs:=(at' x.Nodes (i:Int)).Args.map λa=>at' refs1 a) (V:=λσ=>cd x (jg σ nv) i) ⟨ng.k0,ng.k5⟩ (Ex (g.node i hi)) ng.args (by rw [List.length_map]) ll hl6 (λj hj=>by
    rw [List.length_map] at hj
    have h3:=hin _ (tc hj)
    rw [xO hj]
    have:=hA (at' (at' x.Nodes (i:Int)).Args (j:Int)).toNat om
    rw [show (((at' (at' x.Nodes (i:Int)).Args (j:Int)).toNat:Nat):Int)=at' (at' x.Nodes (i:Int)).Args (j:Int) by omega] at this
    exact this)
   have l6:=a.le
   have hl7:n6.length<=24+4294967296*(i+1):=Nat.le_trans l6 om
   have eset:at' (bn refs1 (x.Vars+i) r6) (x.Vars+i)=r6:=by rw [jj om om,if_pos rfl]
   refine ⟨by unfold rng;omega,n6,u6,m6,r6,w _ ⟨rfl,rfl,rfl,rfl⟩,by omega,by unfold rng;omega,by omega,?_⟩
   rw [eset]
   have hfin:∀P:Bool->Prop,P true->(Q noD (some 4)->P false)->cb r6 4096 o place n6 u6 m6 P:=λP h1 h2=>by
    rcases hS with hS | hS
    ·refine hS i hi _ _ _ _ _ _ a.ts (Nat.le_trans hl7 om) a.vd ?_ h1
     rw [a.dn]
     funext σ
     unfold oL
     rw [mS v0 hi,hnv,Int.toNat_natCast]
    ·exact B_ a.ts (Nat.le_trans hl7 om) a.vd λb=>match b with
      | false=>h2 hS
      | true=>h1
   refine hfin _ (bi (λhc=>by cases hc) (λ_=>⟨by unfold rng;omega,hn2 _ ⟨⟨by dsimp only;omega,by dsimp only;rw [d9];exact hr1,hl7,a.ts⟩,λb hb=>?_⟩⟩)) (λh4=>bi (λ_=>h4) (λhc=>by cases hc))
   show Vd n6 (at' (bn refs1 (x.Vars+i) r6) (b:Int))/\dn n6 (at' (bn refs1 (x.Vars+i) r6) (b:Int))=_
   rw [jj om om]
   by_cases hbi:(b:Int)=x.Vars+i
   ·rw [if_pos hbi,hbi]
    refine ⟨a.vd,?_⟩
    rw [a.dn]
    funext σ
    have hvl:((cd x (jg σ nv) i).length:Int)=x.Vars+i:=by rw [jT];omega
    rw [cd,<-hvl,iF]
   ·rw [if_neg hbi]
    have h1:=hA b om
    refine ⟨h1.1.pre a.pre,?_⟩
    rw [fG h1.1 a.pre,h1.2]
    funext σ
    rw [iR (m:=i) om om (i+1) om]
 ·rintro ⟨x4,refs1,u5,m5,n5⟩ next2 ⟨⟨hx,hr1,hl5,hT5⟩,hA⟩
  dsimp only at hx hr1 hl5 hT5 hA
  subst hx
  have t0:=g.top0;have tt:=g.top
  have ht:=hA x.Top.toNat om
  rw [show ((x.Top.toNat:Nat):Int)=x.Top by omega] at ht
  refine condT (λhc=>absurd hc om) (λ_=>⟨by omega,D0 hT5 (Nat.le_trans hl5 om) ht.1 ?_⟩)
  rw [ht.2]
  have:(λσ=>at' (cd x (jg σ nv) x.Nodes.length) x.Top)=fF x:=by
   funext σ;unfold fF FV;rw [hnv];rfl
  rw [this]
  exact hQ
theorem oc {Q:GDiagram->Option Int->Prop} (ht:rng f.Top) (h1:nQ f o≠0->Q noD (some (nQ f o))) (hn:nQ f o=0->(∀i:Nat,i<f.Nodes.length->pm o (oL f i))\/Q noD (some 4)) (h2:nQ f o=0->Q (vz o (fF f)) none):iz f o Q:=by
 refine GJ ht (λhc=>?_) (λg r a hr hr0=>?_)
 ·have e:nQ f o=jr f:=if_pos hc
  rw [e] at h1
  exact bi (λ_=>h1 hc) (λhf=>by cases hf)
 ·refine bi (λhf=>by cases hf) (λ_=>?_)
  have e:nQ f o=tG o f.Vars:=if_neg (by rw [jH.2 g];simp)
  refine wg ?_
  by_cases h0:tG o f.Vars=0
  ·rw [h0]
   have hz:nQ f o=0:=by rw [e,h0]
   obtain ⟨_,hO,hl⟩:=oU.1 hz
   have hS:=hn hz
   have hQ:=h2 hz
   have v0:=g.v0;have n128:=g.n128
   refine bi (λhf=>by cases hf) (λ_=>⟨λx=>FG x/\x.Vars=f.Vars/\(∀s,FV x s=FV f s)/\∀n:Nat,n<x.Nodes.length->∃k:Nat,k<f.Nodes.length/\∀s,at' (cd x s x.Nodes.length) (f.Vars+n)=at' (cd f s f.Nodes.length) (f.Vars+k),?_,?_⟩)
   ·refine condT (λ_=>GH g (λx gx hv hf hN=>bi (λhc=>by cases hc) (λ_=>⟨gx,hv,hf,hN⟩))) (λhc=>?_)
    have htv:=hr0 om
    refine ⟨⟨g.v0,g.v24,by simp,λi hi=>by simp at hi,g.top0,by simpa using htv⟩,rfl,λs=>?_,λn hn=>by simp at hn⟩
    show at' (cd ⟨f.Vars,[],f.Top⟩ s 0) f.Top=at' (cd f s f.Nodes.length) f.Top
    rw [gn (f:=⟨f.Vars,[],f.Top⟩) g.top0 htv,gn g.top0 htv]
   ·rintro x ⟨gx,hv,hf,hN⟩
    have hSx:(∀i:Nat,i<x.Nodes.length->pm o (oL x i))\/Q noD (some 4):=by
     rcases hS with hS | hS
     ·refine .inl λi hi=>?_
      obtain ⟨k,hk,hkv⟩:=hN i hi
      have e:oL x i=oL f k:=by funext σ;unfold oL;rw [hv,hkv]
      rw [e]
      exact hS k hk
     ·exact .inr hS
    refine Hw hO (λplace hT=>⟨by unfold rng;have:=gx.v24;have:=gx.n128;have:=gx.v0;omega,⟨by have:=gx.v24;have:=gx.n128;have:=gx.v0;omega,by have:=gx.v24;have:=gx.n128;have:=gx.v0;omega,by have:=gx.v24;have:=gx.n128;have:=gx.v0;omega,by have:=gx.v24;have:=gx.n128;have:=gx.v0;omega⟩,zy gx om hSx hT ?_⟩)
    have:fF x=fF f:=by funext σ;unfold fF;rw [hv,hf]
    rw [this]
    exact hQ
  ·have e2:j4 (tG o f.Vars)=some (tG o f.Vars):=vk h0
   rw [e2]
   rw [e] at h1
   exact bi (λ_=>h1 h0) (λhf=>by cases hf)
end
end Go.Gg
namespace Go.Gg
def oe (o:List Int) (k:Nat) (σ ρ:Asg):Asg:=λv=>if di o v<k then σ v else ρ v
def Fd (o:List Int) (F:Asg->Bool) (c:Nat):Prop:=∀k,∃st:Asg->Nat,(∀σ,st σ<c)/\∀σ σ',st σ=st σ'->∀ρ,F (oe o k σ ρ)=F (oe o k σ' ρ)
def CF (o:List Int) (N:List GDNode) (F:Asg->Bool) (q:Nat):Prop:=∃σ,∀τ,den N τ q=F (oe o (lvl o.length (di o) N q) σ τ)
structure SN (o:List Int) (N:List GDNode) (F:Asg->Bool) (seen:GMap Bool) (K:List Nat):Prop where
 nd:K.Nodup
 n:seen.n=K.length
 mem:∀q:Int,2<=q->cH seen [q]=if q.toNat∈K then some true else none
 ok:∀q∈K,(2<=q/\q<2+N.length)/\CF o N F q
theorem DA {a a' s s' c:Nat} (h:a*c+s=a'*c+s') (hs:s<c) (hs':s'<c):a=a'/\s=s':=by
 rcases Nat.lt_trichotomy a a' with h1 | h1 | h1
 ·have:=Nat.mul_le_mul_right c (show a+1<=a' from h1)
  rw [Nat.succ_mul] at this
  omega
 ·subst h1;exact ⟨rfl,by omega⟩
 ·have:=Nat.mul_le_mul_right c (show a'+1<=a from h1)
  rw [Nat.succ_mul] at this
  omega
section
variable {o place:List Int} {nodes:List GDNode} {unique memo:GMap Int} {F:Asg->Bool} {c:Nat}
theorem CF.kid (h:TS o place nodes unique memo) {r:Int} (hr:Vd nodes r) (h2:2<=r) (hc:CF o nodes F r.toNat) (b:Bool):CF o nodes F (bif b then (at' nodes (r-2)).Hi.toNat else (at' nodes (r-2)).Lo.toNat):=by
 obtain ⟨hx,hv,hlo,hhi,e,el,eh⟩:=h.at hr h2
 obtain ⟨σ,hσ⟩:=hc
 have hr2:=hr.2
 have hq:(bif b then (at' nodes (r-2)).Hi.toNat else (at' nodes (r-2)).Lo.toNat)<2+nodes.length:=by cases b<;>simp only [cond_true,cond_false]<;>omega
 have hlq:lvl o.length (di o) nodes r.toNat<lvl o.length (di o) nodes (bif b then (at' nodes (r-2)).Hi.toNat else (at' nodes (r-2)).Lo.toNat):=by cases b<;>simp only [cond_true,cond_false]<;>assumption
 have er:2+(r-2).toNat=r.toNat:=om
 have e':lvl o.length (di o) nodes r.toNat=di o (at' nodes (r-2)).Var.toNat:=e
 generalize hqq:(bif b then (at' nodes (r-2)).Hi.toNat else (at' nodes (r-2)).Lo.toNat)=q at hq hlq ⊢
 refine ⟨λw=>if di o w<lvl o.length (di o) nodes r.toNat then σ w else if w=(at' nodes (r-2)).Var.toNat then b else false,λτ=>?_⟩
 have h1:den nodes τ q=den nodes (oe o (lvl o.length (di o) nodes q) (λ_=>false) τ) q:=WT.dep h.ord.ord h.wt hq _ _ λw hw=>by
  have:=(h.ord.ord.mem.1 hw).2
  unfold oe
  rw [if_neg om]
 have h3:=h.wt.den_cof hx (oe o (lvl o.length (di o) nodes q) (λ_=>false) τ) b
 rw [hqq,er] at h3
 rw [h1,<-h3,hσ]
 congr 1
 funext w
 simp only [oe]
 by_cases hw:di o w<lvl o.length (di o) nodes r.toNat
 ·rw [if_pos hw,if_pos om,if_pos hw]
 ·rw [if_neg hw,if_neg hw]
  by_cases hwv:w=(at' nodes (r-2)).Var.toNat
  ·rw [hwv,fk,if_pos rfl,if_pos om]
  ·rw [f_ hwv,if_neg hwv]
   rfl
theorem SN.few (hT:TS o place nodes unique memo) (hF:Fd o F c) {seen:GMap Bool} {K:List Nat} (h:SN o nodes F seen K):K.length<=o.length*c:=by
 let st:Nat->Asg->Nat:=λk=>Classical.choose (hF k)
 have st1:∀k σ,st k σ<c:=λk=>(Classical.choose_spec (hF k)).1
 have st2:∀k σ σ',st k σ=st k σ'->∀ρ,F (oe o k σ ρ)=F (oe o k σ' ρ):=λk=>(Classical.choose_spec (hF k)).2
 have hsg:∀q,∃σ:Asg,CF o nodes F q->∀τ,den nodes τ q=F (oe o (lvl o.length (di o) nodes q) σ τ):=λq=>by
  by_cases hc:CF o nodes F q
  ·obtain ⟨σ,hσ⟩:=hc
   exact ⟨σ,λ_=>hσ⟩
  ·exact ⟨λ_=>false,λhh=>absurd hh hc⟩
 let sg:Nat->Asg:=λq=>Classical.choose (hsg q)
 have sg1:∀q∈K,∀τ,den nodes τ q=F (oe o (lvl o.length (di o) nodes q) (sg q) τ):=λq hq=>Classical.choose_spec (hsg q) (h.ok q hq).2
 let code:Nat->Nat:=λq=>lvl o.length (di o) nodes q*c+st (lvl o.length (di o) nodes q) (sg q)
 have hlen:(K.map code).length=K.length:=List.length_map ..
 rw [<-hlen]
 refine oJ _ _ ?_ λx hx=>?_
 ·rw [List.Nodup,List.pairwise_map]
  refine List.Pairwise.imp_of_mem (λ{a b} ha hb hne hab=>hne ?_) h.nd
  have hab:lvl o.length (di o) nodes a*c+st (lvl o.length (di o) nodes a) (sg a)=lvl o.length (di o) nodes b*c+st (lvl o.length (di o) nodes b) (sg b):=hab
  obtain ⟨e1,e2⟩:=DA hab (st1 _ _) (st1 _ _)
  refine WT.canon hT.ord.ord.lv hT.wt (h.ok a ha).1.2 (h.ok b hb).1.2 λτ=>?_
  rw [sg1 a ha,sg1 b hb,e1]
  rw [e1] at e2
  exact st2 _ _ _ e2 τ
 ·obtain ⟨q,hq,rfl⟩:=List.mem_map.1 hx
  have h1:=st1 (lvl o.length (di o) nodes q) (sg q)
  have h2:=(h.ok q hq).1
  have hr:Vd nodes (q:Int):=⟨by omega,by omega⟩
  obtain ⟨hx,hv,_,_,e,_⟩:=hT.at hr om
  have h3:=(hT.ord.at_lev (v:=(at' nodes ((q:Int)-2)).Var.toNat) om).1
  have e':lvl o.length (di o) nodes q=di o (at' nodes ((q:Int)-2)).Var.toNat:=e
  have h4:=Nat.mul_le_mul_right c (show lvl o.length (di o) nodes q+1<=o.length by omega)
  rw [Nat.succ_mul] at h4
  show lvl o.length (di o) nodes q*c+st (lvl o.length (di o) nodes q) (sg q)<_
  omega
theorem zw (h:TS o place nodes unique memo) (hb:nodes.length<=1099511627776):∀(k fu:Nat) {seen:GMap Bool} {K:List Nat} {r most:Int},k<fu->Vd nodes r->o.length<=k+lvO o nodes r->SN o nodes F seen K->CF o nodes F r.toNat->
  ∃(seen':GMap Bool) (K':List Nat),SN o nodes F seen' K'/\∀Q:GMap Bool->Prop,Q seen'->aN fu r most seen o place nodes unique memo Q:=by
 intro k
 induction k with
 | zero=>
  intro fu seen K r most hfu hr hk hs hc
  obtain ⟨f,rfl⟩:∃f,fu=f+1:=⟨fu-1,by omega⟩
  refine ⟨seen,K,hs,λQ hQ=>?_⟩
  rw [aN]
  refine condT (λ_=>hQ) (λhc=>?_)
  obtain ⟨_,x,_,_,e,_⟩:=h.at hr om
  have:=(h.ord.at_lev (v:=(at' nodes (r-2)).Var.toNat) om).1
  omega
 | succ k ih=>
  intro fu seen K r most hfu hr hk hs hc
  obtain ⟨f,rfl⟩:∃f,fu=f+1:=⟨fu-1,by omega⟩
  by_cases h2:r<2
  ·refine ⟨seen,K,hs,λQ hQ=>?_⟩
   rw [aN]
   exact condT (λ_=>hQ) (λhc=>absurd h2 hc)
  by_cases h3:Option.getD (cH seen [r]) false=true
  ·refine ⟨seen,K,hs,λQ hQ=>?_⟩
   rw [aN]
   exact condT (λ_=>hQ) (λ_=>bi (λ_=>hQ) (λhc=>by rw [h3] at hc;cases hc))
  by_cases h4:most<((GMap.n seen:Nat):Int)
  ·refine ⟨seen,K,hs,λQ hQ=>?_⟩
   rw [aN]
   exact condT (λ_=>hQ) (λ_=>bi (λ_=>hQ) (λ_=>condT (λ_=>hQ) (λhc=>absurd h4 hc)))
  obtain ⟨_,_,xl,xh,_,xlo,xhi⟩:=h.at hr om
  have hr2:=hr.2
  have hm:=hs.mem r om
  have hnot:r.toNat∉K:=λhin=>by rw [hm,if_pos hin] at h3;exact h3 rfl
  rw [if_neg hnot] at hm
  have hs1:SN o nodes F (mput seen [r] true) (r.toNat :: K):=by
   refine ⟨List.nodup_cons.2 ⟨hnot,hs.nd⟩,?_,λq hq=>?_,λq hq=>?_⟩
   ·have hm':seen.f [r]=none:=hm
    have:=hs.n
    show (bif (seen.f [r]).isSome then seen.n else seen.n+1)=_
    rw [hm',List.length_cons]
    show seen.n+1=_
    omega
   ·rw [eB]
    by_cases hqr:q=r
    ·rw [if_pos hqr,hqr,if_pos (by simp)]
    ·rw [if_neg hqr,hs.mem q hq]
     have:q.toNat∈r.toNat :: K↔q.toNat∈K:=by
      rw [List.mem_cons]
      exact ⟨λhh=>hh.resolve_left om,.inr⟩
     by_cases hin:q.toNat∈K
     ·rw [if_pos hin,if_pos (this.2 hin)]
     ·rw [if_neg hin,if_neg (λhh=>hin (this.1 hh))]
   ·rcases List.mem_cons.1 hq with rfl | hq
    ·exact ⟨⟨by omega,by omega⟩,hc⟩
    ·exact hs.ok q hq
  obtain ⟨s1,K1,c1,w1⟩:=ih f (seen:=mput seen [r] true) (r:=(at' nodes (r-2)).Lo) (most:=most) om ⟨xl.1,by omega⟩ om hs1 (CF.kid h hr om hc false)
  obtain ⟨s2,K2,c2,w2⟩:=ih f (seen:=s1) (r:=(at' nodes (r-2)).Hi) (most:=most) om ⟨xh.1,by omega⟩ om c1 (CF.kid h hr om hc true)
  refine ⟨s2,K2,c2,λQ hQ=>?_⟩
  rw [aN]
  exact condT (λhc=>absurd hc h2) (λ_=>bi (λhc=>absurd hc h3) (λ_=>condT (λhc=>absurd hc h4) (λ_=>⟨by unfold rng;omega,⟨by omega,by omega⟩,s1,w1 _ rfl,by unfold rng;omega,⟨by omega,by omega⟩,s2,w2 _ rfl,hQ⟩)))
end
theorem pm.fin {o:List Int} {F:Asg->Bool} {c:Nat} (hF:Fd o F c) (hc:o.length*c<=4096):pm o F:=by
 intro place nodes unique memo r Q h hb hr hd hQ
 have hcf:CF o nodes F r.toNat:=by
  refine ⟨λ_=>false,λτ=>?_⟩
  have h1:den nodes τ r.toNat=den nodes (oe o (lvl o.length (di o) nodes r.toNat) (λ_=>false) τ) r.toNat:=WT.dep h.ord.ord h.wt hr.2 _ _ λw hw=>by
   have:=(h.ord.ord.mem.1 hw).2
   unfold oe
   rw [if_neg om]
  rw [h1]
  exact congrFun hd _
 have h0:SN o nodes F (iQ:GMap Bool) []:=⟨List.nodup_nil,rfl,λq _=>by rw [rh,if_neg (by simp)],λq hq=>by simp at hq⟩
 obtain ⟨s,K,hs,w⟩:=zw h hb o.length (o.length+1) (seen:=iQ) (r:=r) (most:=4096) om hr om h0 hcf
 have h1:=hs.few h hF
 have h2:=hs.n
 refine ⟨o.length+1,w _ ?_⟩
 rw [decide_eq_true om]
 exact hQ
end Go.Gg
namespace Go.Gg
def ex (p:Nat->Rat):List Nat->(Asg->Rat)->Asg->Rat
 | [],g,σ=>g σ
 | v :: l,g,σ=>(1-p v)*ex p l g (cq σ v false)+p v*ex p l g (cq σ v true)
def b2q (b:Bool):Rat:=bif b then 1 else 0
theorem kR {σ:Asg} {a b:Nat} {x y:Bool} (h:a≠b):cq (cq σ a x) b y=cq (cq σ b y) a x:=by
 funext i
 by_cases h1:i=b
 ·have h2:i≠a:=λe=>h (e.symm.trans h1)
  rw [f_ h2,h1,fk,fk]
 ·rw [f_ h1]
  by_cases h2:i=a
  ·rw [h2,fk,fk]
  ·rw [f_ h2,f_ h2,f_ h1]
section
variable {p:Nat->Rat}
theorem rB:∀(l:List Nat) {g g':Asg->Rat} {σ:Asg},(∀τ:Asg,(∀v,v∉l->τ v=σ v)->g τ=g' τ)->ex p l g σ=ex p l g' σ
 | [],_,_,_,h=>h _ λ_ _=>rfl
 | v :: l,g,g',σ,h=>by
  have e:∀b,ex p l g (cq σ v b)=ex p l g' (cq σ v b):=λb=>rB l λτ ht=>h τ λw hw=>by
   rw [List.mem_cons,not_or] at hw
   rw [ht w hw.2,f_ hw.1]
  rw [ex,ex,e,e]
theorem nN (l:List Nat) {g g':Asg->Rat} {σ:Asg} (h:∀τ,g τ=g' τ):ex p l g σ=ex p l g' σ:=rB l λτ _=>h τ
theorem Af:∀(l l':List Nat) {g:Asg->Rat} {σ:Asg},ex p (l++l') g σ=ex p l (λτ=>ex p l' g τ) σ
 | [],_,_,_=>rfl
 | v :: l,l',g,σ=>by rw [List.cons_append,ex,ex,Af l l',Af l l']
theorem oR:∀(l:List Nat) {c:Rat} {σ:Asg},ex p l (λ_=>c) σ=c
 | [],_,_=>rfl
 | v :: l,c,σ=>by rw [ex,oR l,oR l];grind
theorem sG:∀(l:List Nat) {g:Asg->Rat} {σ:Asg} {v:Nat} {b:Bool},v∉l->ex p l g (cq σ v b)=ex p l (λτ=>g (cq τ v b)) σ
 | [],_,_,_,_,_=>rfl
 | w :: l,g,σ,v,b,h=>by
  rw [List.mem_cons,not_or] at h
  rw [ex,ex,kR h.1,kR h.1,sG l h.2,sG l h.2]
theorem EO {l:List Nat} {g:Asg->Rat} {σ:Asg} {v:Nat} (hv:v∉l) (h:∀τ b,g (cq τ v b)=g τ):ex p (v :: l) g σ=ex p l g σ:=by
 rw [ex,sG l hv,sG l hv,nN l λτ=>h τ false,nN l λτ=>h τ true]
 grind
theorem EP {l l':List Nat} (h:l.Perm l'):l.Nodup->∀ {g:Asg->Rat} {σ:Asg},ex p l g σ=ex p l' g σ:=by
 induction h with
 | nil=>intro _ g σ;rfl
 | cons x _ ih=>
  intro hn g σ
  rw [ex,ex,ih (List.nodup_cons.1 hn).2,ih (List.nodup_cons.1 hn).2]
 | swap x y l=>
  intro hn g σ
  have hne:y≠x:=λe=>(List.nodup_cons.1 hn).1 (by rw [e];exact List.mem_cons_self)
  simp only [ex]
  rw [kR (σ:=σ) (x:=false) (y:=false) hne,kR (σ:=σ) (x:=false) (y:=true) hne,kR (σ:=σ) (x:=true) (y:=false) hne,kR (σ:=σ) (x:=true) (y:=true) hne]
  grind
 | trans h1 h2 ih1 ih2=>intro hn g σ;rw [ih1 hn,ih2 (h1.nodup_iff.1 hn)]
theorem Ds:∀(l:List Nat) {g:Asg->Rat} {σ:Asg},(∀v∈l,0<=p v/\p v<=1)->(∀τ,0<=g τ/\g τ<=1)->0<=ex p l g σ/\ex p l g σ<=1
 | [],_,σ,_,h=>h σ
 | v :: l,g,σ,hp,h=>by
  have h1:=Ds l (σ:=cq σ v false) (λw hw=>hp w (by simp [hw])) h
  have h2:=Ds l (σ:=cq σ v true) (λw hw=>hp w (by simp [hw])) h
  have h0:=hp v (by simp)
  rw [ex]
  generalize ex p l g (cq σ v false)=a at h1 ⊢
  generalize ex p l g (cq σ v true)=b at h2 ⊢
  generalize p v=x at h0 ⊢
  have hx:0<=1-x:=by grind
  have a1:=Rat.mul_nonneg hx h1.1
  have a2:=Rat.mul_nonneg h0.1 h2.1
  have a3:=Rat.mul_le_mul_of_nonneg_left h1.2 hx
  have a4:=Rat.mul_le_mul_of_nonneg_left h2.2 h0.1
  constructor<;>grind
def vt (p:Nat->Rat):List Nat->Nat
 | []=>1
 | v :: l=>(p v).den*vt p l
theorem vr:∀l,0<vt p l
 | []=>Nat.one_pos
 | v :: l=>Nat.mul_pos (p v).den_pos (vr l)
theorem Bn {e:Nat}:∀l,(∀v∈l,RB e (p v))->vt p l<2^(e*l.length+1)
 | [],_=>by simp [vt]
 | v :: l,h=>by
  have h1:=Bn l λw hw=>h w (by simp [hw])
  have h2:=(h v (by simp)).2
  rw [vt,List.length_cons,show e*(l.length+1)+1=e+(e*l.length+1) by rw [Nat.mul_add];omega,Nat.pow_add]
  have:=vr (p:=p) l
  exact Nat.lt_of_lt_of_le (Nat.mul_lt_mul_of_pos_right h2 this) (Nat.mul_le_mul_left _ (Nat.le_of_lt h1))
theorem Ae:∀(l:List Nat) {g:Asg->Rat} {σ:Asg},(∀τ,∃z:Int,g τ=z)->∃z:Int,ex p l g σ*(vt p l:Rat)=z
 | [],_,σ,h=>by
  obtain ⟨z,hz⟩:=h σ
  exact ⟨z,by rw [ex,hz,vt];simp⟩
 | v :: l,g,σ,h=>by
  obtain ⟨a,ha⟩:=Ae l (σ:=cq σ v false) h
  obtain ⟨b,hb⟩:=Ae l (σ:=cq σ v true) h
  have hne:((p v).den:Rat)≠0:=by
   have:=(p v).den_nz
   exact_mod_cast this
  have hd:p v*((p v).den:Rat)=((p v).num:Rat):=calc
   p v*((p v).den:Rat)=((p v).num:Rat) / ((p v).den:Rat)*((p v).den:Rat):=by rw [<-Rat.mkRat_eq_div,Rat.mkRat_self]
   _=((p v).num:Rat):=Rat.div_mul_cancel hne
  refine ⟨((p v).den-(p v).num)*a+(p v).num*b,?_⟩
  rw [ex,vt]
  have e:((1-p v)*ex p l g (cq σ v false)+p v*ex p l g (cq σ v true))*(((p v).den*vt p l:Nat):Rat)=(((p v).den:Rat)-p v*((p v).den:Rat))*(ex p l g (cq σ v false)*(vt p l:Rat))+(p v*((p v).den:Rat))*(ex p l g (cq σ v true)*(vt p l:Rat)):=by
   rw [Rat.natCast_mul];grind
  rw [e,ha,hb,hd]
  push_cast
  rfl
theorem GL {x:Rat} {D e:Nat} {z:Int} (h0:0<=x) (h1:x<=1) (hz:x*(D:Rat)=z) (hD:0<D) (he:D<2^e):RB e x:=by
 have hDr:(0:Rat)<(D:Rat):=by exact_mod_cast hD
 have hx:x=mkRat z D:=by
  rw [Rat.mkRat_eq_div]
  show x=(z:Rat) / (D:Rat)
  rw [<-hz]
  grind
 have z0:0<=z:=by
  have:(0:Rat)<=(z:Rat):=by rw [<-hz];exact Rat.mul_nonneg h0 (Rat.le_of_lt hDr)
  exact_mod_cast this
 have z1:z<=(D:Int):=by
  have:(z:Rat)<=((D:Int):Rat):=by
   rw [<-hz]
   have:=Rat.mul_le_mul_of_nonneg_right h1 (Rat.le_of_lt hDr)
   rw [Rat.one_mul] at this
   exact this
  exact_mod_cast this
 rw [hx]
 exact rP om om he
theorem GG (b:Bool):0<=b2q b/\b2q b<=1:=by cases b<;>decide
theorem E0 (b:Bool):∃z:Int,b2q b=z:=match b with
 | false=>⟨0,rfl⟩
 | true=>⟨1,rfl⟩
theorem Hp {l:List Nat} {f:Asg->Bool} {σ:Asg} {e:Nat} (hp:∀v∈l,0<=p v/\p v<=1) (he:∀v∈l,RB e (p v)):RB (e*l.length+1) (ex p l (λτ=>b2q (f τ)) σ):=by
 obtain ⟨h1,h2⟩:=Ds l (σ:=σ) hp λτ=>GG (f τ)
 obtain ⟨z,hz⟩:=Ae (p:=p) l (σ:=σ) λτ=>E0 (f τ)
 exact GL h1 h2 hz (vr l) (Bn l he)
variable {n:Nat} {lev:Nat->Nat} {ord:List Nat} {N:List GDNode}
theorem xE (hO:OrdL n lev ord) (h:WT n lev N) {r:Nat} (hr:r<2+N.length) {σ:Asg}:∀l0,l0<=lvl n lev N r->ex p (ord.drop l0) (λτ=>b2q (den N τ r)) σ=ex p ord (λτ=>b2q (den N τ r)) σ
 | 0,_=>by rw [List.drop_zero]
 | l0+1,hl=>by
  have hn:=WT.lvl_le hO.lv h (r:=r)
  have hlen:=hO.len
  have hg:ord[l0]? = some ord[l0]:=List.getElem?_eq_getElem om
  obtain ⟨hv,hlv⟩:=hO.at_ _ _ hg
  have hd:=hO.drop hv
  rw [hlv] at hd
  have hnot:ord[l0]∉ord.drop (l0+1):=λhm=>by have:=(hO.mem.1 hm).2;omega
  have:=xE hO h hr (σ:=σ) l0 om
  rw [hd,EO hnot λτ b=>by rw [h.den_set hr om τ]] at this
  exact this
def pr (p:Nat->Rat) (N:List GDNode) (ord:List Nat) (r:Nat):Rat:=ex p ord (λτ=>b2q (den N τ r)) (λ_=>false)
theorem El:pr p N ord 0=0:=by
 unfold pr
 rw [nN ord (g':=λ_=>0) λτ=>by rw [gH];rfl,oR]
theorem F9:pr p N ord 1=1:=by
 unfold pr
 rw [nN ord (g':=λ_=>1) λτ=>by rw [jd];rfl,oR]
theorem Em (hO:OrdL n lev ord) (h:WT n lev N) {i:Nat} {x:GDNode} (hx:N[i]? = some x):pr p N ord (2+i)=(1-p x.Var.toNat)*pr p N ord x.Lo.toNat+p x.Var.toNat*pr p N ord x.Hi.toNat:=by
 have nd:=h.nd i x hx
 have hi:i<N.length:=(List.getElem?_eq_some_iff.1 hx).1
 have hv:x.Var.toNat<n:=by have:=nd.var;omega
 have hlv:lvl n lev N (2+i)=lev x.Var.toNat:=nJ hx
 have hnot:x.Var.toNat∉ord.drop (lev x.Var.toNat+1):=λhm=>by have:=(hO.mem.1 hm).2;omega
 have h1:=nd.lo;have h2:=nd.hi;have h3:=nd.llo;have h4:=nd.lhi
 unfold pr
 rw [<-xE hO h (r:=2+i) om (lev x.Var.toNat) om,hO.drop hv,ex,sG _ hnot,sG _ hnot]
 rw [nN (g:=λτ=>b2q (den N (cq τ x.Var.toNat false) (2+i))) (g':=λτ=>b2q (den N τ x.Lo.toNat)) _ λτ=>by rw [h.den_cof hx τ false];rfl]
 rw [nN (g:=λτ=>b2q (den N (cq τ x.Var.toNat true) (2+i))) (g':=λτ=>b2q (den N τ x.Hi.toNat)) _ λτ=>by rw [h.den_cof hx τ true];rfl]
 rw [<-xE hO h (r:=x.Lo.toNat) om (lev x.Var.toNat+1) om,<-xE hO h (r:=x.Hi.toNat) om (lev x.Var.toNat+1) om]
end
end Go.Gg
namespace Go.Gg
theorem Fw {α:Type} [Inhabited α] {l:List α} {i:Nat} (h:i<l.length):at' l (i:Int)=l[i]:=by
 unfold at'
 rw [List.getD_eq_getElem?_getD,Int.toNat_natCast,List.getElem?_eq_getElem h]
 rfl
section
variable {lt:Int->Int->Bool}
end
end Go.Gg
namespace Go.Gg
structure Bij (n:Nat) (p a:Nat->Nat):Prop where
 lt:∀v,v<n->p v<n
 lt':∀k,k<n->a k<n
 ap:∀v,v<n->a (p v)=v
 pa:∀k,k<n->p (a k)=k
end Go.Gg
namespace Go.Gg
section
variable {d:GDiagram}
theorem Hr {e:Int} {A B:Prop} (h0:e≠0->A) (h1:e=0->B):ak (Option.isSome (j4 e)) A B:=by
 by_cases h:e=0
 ·rw [h];exact bi (λhc=>by cases hc) (λ_=>h1 h)
 ·exact bi (λ_=>h0 h) (λhc=>by rw [B5 h] at hc;cases hc)
end
end Go.Gg
namespace Go.Gg
def oO (n:Nat):List Int:=(List.range n).map λi:Nat=>(i:Int)
theorem yV {n:Nat}:(oO n).length=n:=by simp [oO]
theorem y5 {n:Nat} {x:Int}:x∈oO n↔0<=x/\x<n:=by
 simp only [oO,List.mem_map,List.mem_range]
 constructor
 ·rintro ⟨i,h,rfl⟩;omega
 ·intro h;exact ⟨x.toNat,by omega,by omega⟩
theorem BV {n:Nat}:oO (n+1)=oO n++[(n:Int)]:=by simp [oO,List.range_succ]
section
variable {o:List Int}
end
end Go.Gg
namespace Go.Gg
section
variable {o a b:List Int}
end
end Go.Gg
namespace Go.Gg
section
variable {f:GFormula}
def qu (f:GFormula):Nat->Int->List Int×List Bool->List Int×List Bool
 | 0,_,s=>s
 | fu+1,arg,s=>if at' s.2 arg=true then s else if arg<f.Vars then (s.1++[arg],bn s.2 arg true) else (at' f.Nodes (arg-f.Vars)).Args.foldl (λs x=>qu f fu x s) (s.1,bn s.2 arg true)
structure VI (f:GFormula) (s:List Int×List Bool):Prop where
 len:(s.2.length:Int)=f.Vars+f.Nodes.length
 nd:s.1.Nodup
 mem:∀v,v∈s.1↔(0<=v/\v<f.Vars)/\at' s.2 v=true
theorem BL {l:List Int} {n:Int} (h:l.Nodup) (hm:∀v∈l,0<=v/\v<n):(l.length:Int)<=max n 0:=by
 have h1:=oJ n.toNat (l.map Int.toNat) (by
  rw [List.Nodup,List.pairwise_map]
  exact List.Pairwise.imp_of_mem (λ{a b} ha hb hab he=>hab (by have:=hm a ha;have:=hm b hb;omega)) h) (λx hx=>by
  obtain ⟨v,hv,rfl⟩:=List.mem_map.1 hx
  have:=hm v hv
  omega)
 rw [List.length_map] at h1
 omega
theorem VI.few (g:FG f) {s:List Int×List Bool} (h:VI f s):s.1.length<=24:=by
 have:=BL h.nd (n:=f.Vars) (λv hv=>((h.mem v).1 hv).1)
 have:=g.v24
 have:=g.v0
 omega
theorem As (g:FG f):∀(fu:Nat) (arg:Int) (s:List Int×List Bool) (Q:List Int->List Bool->Prop),0<=arg->arg<f.Vars+f.Nodes.length->arg<fu->VI f s->(VI f (qu f fu arg s)->Q (qu f fu arg s).1 (qu f fu arg s).2)->
  cA fu arg f.Vars f.Nodes f.Top s.1 s.2 Q
 | 0,_,_,_,h0,_,h2,_,_=>om
 | fu+1,arg,s,Q,h0,h1,h2,hv,hQ=>by
  have hlen:=hv.len
  have hfew:=hv.few g
  have hv0:=g.v0
  have hv24:=g.v24
  rw [cA]
  refine ⟨⟨h0,by omega⟩,bi (λhs=>?_) (λhs=>⟨⟨h0,by omega⟩,condT (λhc=>?_) (λhc=>?_)⟩)⟩
  ·rw [qu,if_pos hs] at hQ
   exact hQ hv
  ·have hs':¬at' s.2 arg=true:=by rw [hs];simp
   rw [qu,if_neg hs',if_pos hc] at hQ
   refine ⟨by rw [List.length_append,List.length_singleton];omega,hQ ⟨by rw [d9];exact hlen,?_,λv=>?_⟩⟩
   ·refine List.nodup_append.2 ⟨hv.nd,by simp,λa ha b hb he=>?_⟩
    rw [List.mem_singleton] at hb
    subst hb
    subst he
    exact hs' ((hv.mem a).1 ha).2
   ·rw [List.mem_append,List.mem_singleton,hv.mem v]
    constructor
    ·rintro (⟨h5,h6⟩ | rfl)
     ·refine ⟨h5,?_⟩
      rw [jj ⟨h0,by omega⟩ h5.1]
      split
      ·rfl
      ·exact h6
     ·exact ⟨⟨h0,hc⟩,by rw [jj ⟨h0,by omega⟩ h0,if_pos rfl]⟩
    ·rintro ⟨h5,h6⟩
     rw [jj ⟨h0,by omega⟩ h5.1] at h6
     split at h6
     ·rename_i he;exact .inr he
     ·exact .inl ⟨h5,h6⟩
  ·have hs':¬at' s.2 arg=true:=by rw [hs];simp
   rw [qu,if_neg hs',if_neg hc] at hQ
   obtain ⟨i,hi⟩:∃i:Nat,arg-f.Vars=i:=⟨(arg-f.Vars).toNat,by omega⟩
   have hil:i<f.Nodes.length:=om
   rw [hi] at hQ ⊢
   have hargs:=sN g hil
   have h16:=(gC (g.node i hil))
   refine ⟨by unfold rng;have:=g.n128;omega,⟨by omega,by omega⟩,?_⟩
   generalize hA:(at' f.Nodes (i:Int)).Args=A at hQ hargs ⊢
   have hA16:A.length<=16:=by rw [<-hA];exact h16.len
   have hv1:VI f (s.1,bn s.2 arg true):=by
    refine ⟨by rw [d9];exact hlen,hv.nd,λv=>?_⟩
    rw [hv.mem v]
    constructor
    ·rintro ⟨h5,h6⟩
     refine ⟨h5,?_⟩
     rw [jj ⟨h0,by omega⟩ h5.1]
     split
     ·rfl
     ·exact h6
    ·rintro ⟨h5,h6⟩
     rw [jj ⟨h0,by omega⟩ h5.1,if_neg om] at h6
     exact ⟨h5,h6⟩
   refine cY (n:=A.length) (λj y=>y=((j:Int),((A.take j).foldl (λs x=>qu f fu x s) (s.1,bn s.2 arg true)).1,((A.take j).foldl (λs x=>qu f fu x s) (s.1,bn s.2 arg true)).2)/\VI f ((A.take j).foldl (λs x=>qu f fu x s) (s.1,bn s.2 arg true)))
    (λy=>y.1) 0 (λj y hy=>by rw [hy.1];omega) ⟨rfl,hv1⟩ ?_ ?_
   ·rintro j _ next hj ⟨rfl,hI⟩ hn
    have ha:=hargs _ (tc hj)
    have e:(A.take (j+1)).foldl (λs x=>qu f fu x s) (s.1,bn s.2 arg true)=qu f fu (at' A (j:Int)) ((A.take j).foldl (λs x=>qu f fu x s) (s.1,bn s.2 arg true)):=by
     rw [nq hj,List.foldl_append]
     rfl
    refine condT (λ_=>⟨⟨by omega,by omega⟩,As g fu _ _ _ ha.1 om om hI (λhV=>⟨?_,by unfold rng;omega,hn _ ⟨?_,by rw [e];exact hV⟩⟩)⟩) (λhc=>absurd (show (j:Int)<A.length by omega) hc)
    ·have h3:=hV.len
     have h4:=hI.len
     omega
    ·rw [e]
     rfl
   ·rintro _ next ⟨rfl,hI⟩
    refine condT (λhc=>by first | omega | (dsimp only at hc;omega)) (λ_=>?_)
    have e:A.take A.length=A:=List.take_of_length_le (Nat.le_refl _)
    rw [e] at hI ⊢
    exact hQ hI
def np (f:GFormula):List Int×List Bool:=qu f (f.Vars+(f.Nodes.length:Int)).toNat f.Top ([],bp (f.Vars+(f.Nodes.length:Int)) false)
def dY (f:GFormula):List Int:=(np f).1++(oO f.Vars.toNat).filter λv=>!(at' (np f).2 v)
theorem BG {n v:Int}:at' (bp n false) v=false:=by
 unfold at' bp
 rw [List.getD_eq_getElem?_getD,List.getElem?_replicate]
 split<;>rfl
theorem VI0 (g:FG f):VI f ([],bp (f.Vars+(f.Nodes.length:Int)) false):=
 ⟨by have:=g.v0;rw [o7 om],List.nodup_nil,λv=>by rw [BG];simp⟩
theorem ES (g:FG f) {Q:List Int->List Bool->Prop} (hQ:VI f (np f)->Q (dY f) (np f).2):mM f Q:=by
 have hv0:=g.v0
 have hv24:=g.v24
 have hn:=g.n128
 have ht0:=g.top0
 have ht:=g.top
 refine ⟨by unfold rng;omega,⟨by omega,by omega,by omega,by omega⟩,(f.Vars+(f.Nodes.length:Int)).toNat,As g _ f.Top ([],bp (f.Vars+(f.Nodes.length:Int)) false) _ ht0 ht om (VI0 g) (λhV=>?_)⟩
 have hlen:=hV.len
 have hfew:=hV.few g
 refine ⟨by have:=(VI0 g).len;dsimp only at this;omega,?_⟩
 obtain ⟨n,hvn⟩:∃n:Nat,f.Vars=n:=⟨f.Vars.toNat,by omega⟩
 refine dq (n:=n) (λi=>((i:Int),(np f).1++(oO i).filter λv=>!(at' (np f).2 v))) (λy=>y.1) 0 (λi=>by first | omega | (dsimp only;omega)) (by simp [oO];rfl) ?_ ?_
 ·intro i next hi hn1
  have hf:=List.length_filter_le (λv=>!(at' (np f).2 v)) (oO i)
  rw [yV] at hf
  have hl2:(np f).1.length<=24:=hfew
  have hl3:((np f).2.length:Int)=f.Vars+f.Nodes.length:=hlen
  rw [BV,List.filter_append] at hn1
  refine condT (λ_=>⟨⟨by omega,by show (i:Int)<((np f).2.length:Int);omega⟩,bi (λhb=>?_) (λhb=>?_)⟩) (λhc=>absurd om hc)
  ·have hb':(!at' (np f).2 (i:Int))=true:=hb
   rw [List.filter_cons_of_pos (by exact hb'),List.filter_nil,<-List.append_assoc] at hn1
   refine ⟨by simp only [List.length_append,List.length_singleton];omega,by unfold rng;omega,?_⟩
   simpa using hn1
  ·have hb':¬(!at' (np f).2 (i:Int))=true:=by
    intro hc
    have hc2:(!at' (np f).2 (i:Int))=false:=hb
    rw [hc2] at hc
    cases hc
   rw [List.filter_cons_of_neg (by exact hb'),List.filter_nil,List.append_nil] at hn1
   exact ⟨by unfold rng;omega,by simpa using hn1⟩
 ·intro next
  refine condT (λhc=>by first | omega | (dsimp only at hc;omega)) (λ_=>?_)
  have:=hQ hV
  unfold dY at this
  rw [hvn,Int.toNat_natCast] at this
  exact this
theorem wT (h:VI f (np f)) {v:Int}:v∈dY f↔0<=v/\v<f.Vars:=by
 unfold dY
 rw [List.mem_append,List.mem_filter,y5,h.mem v]
 cases hb:at' (np f).2 v with
 | true=>simp
 | false=>simp;omega
theorem zm (h:VI f (np f)):(dY f).Nodup:=by
 refine List.nodup_append.2 ⟨h.nd,?_,λa ha b hb he=>?_⟩
 ·refine List.Nodup.sublist List.filter_sublist ?_
  unfold oO
  rw [List.Nodup,List.pairwise_map]
  exact List.Pairwise.imp (λh hc=>h om) (List.nodup_range (n:=f.Vars.toNat))
 ·subst he
  have h1:=((h.mem a).1 ha).2
  have h2:=(List.mem_filter.1 hb).2
  rw [h1] at h2
  cases h2
theorem ED {n:Nat}:(oO n).Nodup:=by
 unfold oO
 rw [List.Nodup,List.pairwise_map]
 exact List.Pairwise.imp (λh hc=>h om) (List.nodup_range (n:=n))
theorem Ai (h:VI f (np f)):(dY f).Perm (oO f.Vars.toNat):=
 (List.perm_ext_iff_of_nodup (zm h) ED).2 (λv=>by rw [wT h,y5];omega)
theorem Fg (ht:rng f.Top) {Q:List Int->Option Int->Prop} (h0:jr f≠0->Q [] (some (jr f))) (h1:FG f->VI f (np f)->Q (dY f) none):mN f Q:=by
 refine eV ht (Hr (λhc=>by rw [vk hc];exact h0 hc) (λhz=>?_))
 have g:=jH.1 hz
 exact ES g (h1 g)
end
end Go.Gg
namespace Go.Gg
structure PL (l:List GRat) (p:Nat->Rat) (n:Nat):Prop where
 len:l.length=n
 rp:∀v:Nat,v<n->Rp 129 (at' l (v:Int)) (p v)
 pos:∀v,v<n->0<=p v/\p v<=1
section
variable {n:Nat} {lev:Nat->Nat} {ord:List Nat} {N:List GDNode} {p:Nat->Rat} {l:List GRat}
theorem CW (hO:OrdL n lev ord) (hp:PL l p n) (hn:n<=24) {r:Nat}:Rp 4000 (aY (pr p N ord r)) (pr p N ord r):=by
 have hm:∀v∈ord,v<n:=λv hv=>by
  have:v∈ord.drop 0:=by rw [List.drop_zero];exact hv
  exact (hO.mem.1 this).1
 refine .of ((Hp (λv hv=>hp.pos v (hm v hv)) λv hv=>(hp.rp v (hm v hv)).2.2).mono ?_) (by decide)
 have:=hO.len
 omega
def prL (p:Nat->Rat) (N:List GDNode) (ord:List Nat) (i:Nat):List GRat:=(List.range i).map λj=>aY (pr p N ord (2+j))
theorem AR {i:Nat}:(prL p N ord i).length=i:=by simp [prL]
theorem F_ {i j:Nat} (h:j<i):at' (prL p N ord i) (j:Int)=aY (pr p N ord (2+j)):=by simp [prL,at',List.getD_eq_getElem?_getD,h]
theorem yF {i:Nat}:prL p N ord i++[aY (pr p N ord (2+i))]=prL p N ord (i+1):=by simp [prL,List.range_succ]
theorem Gc {i:Nat} {r:Int} {Q:GRat->Prop} (hi:i<=1000000000) (h0:0<=r) (h1:r<2+i) (h:Q (aY (pr p N ord r.toNat))):nw (prL p N ord i) r Q:=by
 refine condT (λh2=>?_) (λh2=>?_)
 ·refine Hb (by unfold rng;omega) λ_=>?_
  rcases (show r=0\/r=1 by omega) with rfl | rfl
  ·rw [show Int.toNat 0=0 from rfl,El] at h;exact h
  ·rw [show Int.toNat 1=1 from rfl,F9] at h;exact h
 ·refine ⟨by unfold rng;omega,⟨by omega,by rw [AR];omega⟩,?_⟩
  have e:r-2=((r.toNat-2:Nat):Int):=om
  rw [e,F_ om,show 2+(r.toNat-2)=r.toNat by omega]
  exact h
theorem Ew (hO:OrdL n lev ord) (h:WT n lev N) (hp:PL l p n) (hn:n<=24) {i:Nat} {x:GDNode} (hx:N[i]? = some x) (hi:i<=1000000000) {Q:GRat->Prop} (hQ:Q (aY (pr p N ord (2+i)))):iW x l (prL p N ord i) Q:=by
 have nd:=h.nd i x hx
 have h1:=nd.lo;have h2:=nd.hi;have hv:=nd.var
 have hl:=hp.len
 have hpr:=hp.rp x.Var.toNat om
 rw [show ((x.Var.toNat:Nat):Int)=x.Var by omega] at hpr
 refine ⟨⟨by omega,by omega⟩,Ha (by unfold rng;omega) λr1=>F1 r1 hpr (by decide) λr2=>⟨_,Gc hi h1.1 h1.2 rfl,Di r2 (CW hO hp hn) (by decide) λr3=>⟨_,Gc hi h2.1 h2.2 rfl,Di hpr (CW hO hp hn) (by decide) λr4=>DV r3 r4 (by decide) λ_=>?_⟩⟩⟩
 rw [show ((1:Int):Rat)=1 from rfl,<-Em hO h hx]
 exact hQ
theorem Co {d:GDiagram} (hO:OrdL n lev ord) (h:WT n lev d.Nodes) (hp:PL l p n) (hn:n<=24) (hl:d.Nodes.length<=16777216) {Q:List GRat->Prop} (hQ:Q (prL p d.Nodes ord d.Nodes.length)):jv d l Q:=by
 refine ⟨⟨by omega,by omega,by omega,by omega⟩,?_⟩
 refine dq (n:=d.Nodes.length) (λi=>((i:Int),prL p d.Nodes ord i)) (λy=>y.1) 0 (λi=>by simp) (by rfl) (λi next hi hn1=>?_) (λnext=>?_)
 ·have hx:=DN (N:=d.Nodes) hi
  refine condT (λ_=>⟨⟨by omega,by omega⟩,Ew hO h hp hn hx om ⟨?_,by unfold rng;omega,?_⟩⟩) (λhc=>absurd (show (i:Int)<(d.Nodes.length:Int) by omega) hc)
  ·rw [yF,AR];omega
  ·rw [yF];exact hn1
 ·exact condT (λhc=>absurd hc om) (λ_=>hQ)
theorem BF {vars:Int} {Q:Option Int->Prop} (hp:PL l p n) (hn:n<=24) (hv:vars=n) (hb:∀i:Nat,i<n->gb (at' l (i:Int))=true) (hQ:Q none):j_ l vars Q:=by
 have hl:=hp.len
 refine e_ (λhc=>absurd hc om) (λ_=>?_)
 unfold bG bL
 refine l8 (λ_=>False) om (λj next hj _ hnx=>?_) (λ_=>?_)
 ·refine ⟨⟨by omega,by omega⟩,nX (hp.rp j om).1 ?_⟩
  rw [hb j om]
  exact bi (λhc=>by cases hc) (λ_=>hnx (λhf=>hf))
 ·exact bi (λhc=>by cases hc) (λ_=>hQ)
end
def exF (p:Nat->Rat) (f:GFormula):Rat:=ex p (List.range f.Vars.toNat) (λτ=>b2q (fF f τ)) (λ_=>false)
theorem Dy {f:GFormula} (g:FG f) (h:VI f (np f)):Or14 (dY f)/\((dY f).length:Int)=f.Vars/\(jp (dY f)).Perm (List.range f.Vars.toNat):=by
 have hpm:=Ai h
 have hlen:(dY f).length=f.Vars.toNat:=by rw [hpm.length_eq,yV]
 have v0:=g.v0;have v24:=g.v24
 have hnd:=zm h
 refine ⟨⟨by omega,λi hi=>?_,λi j hi hj he=>?_⟩,by omega,?_⟩
 ·have:=(wT h).1 (tc hi)
  omega
 ·rw [Fw hi,Fw hj] at he
  have hpw:=List.pairwise_iff_getElem.1 hnd
  rcases Nat.lt_trichotomy i j with h1 | h1 | h1
  ·exact absurd he (hpw i j hi hj h1)
  ·exact h1
  ·exact absurd he.symm (hpw j i hj hi h1)
 ·have:=hpm.map Int.toNat
  have e:(oO f.Vars.toNat).map Int.toNat=List.range f.Vars.toNat:=by
   unfold oO
   rw [List.map_map]
   exact (List.map_congr_left (g:=id) λa _=>rfl).trans (List.map_id _)
  rw [e] at this
  exact this
theorem FC {f:GFormula} {l:List GRat} {p:Nat->Rat} {Q:GRat->Option Int->Prop} (g:FG f) (ht:rng f.Top) (hp:PL l p f.Vars.toNat) (hb:∀i:Nat,i<f.Vars.toNat->gb (at' l (i:Int))=true)
  (hB:∀o:List Int,Or14 o->(o.length:Int)=f.Vars->∀Q':GDiagram->Option Int->Prop,(Q ⟨false,[],[]⟩ (some 4)->Q' noD (some 4))->Q' (vz o (fF f)) none->iz f o Q') (hQ:Rp 4000 (aY (exF p f)) (exF p f)->Q (aY (exF p f)) none):mu f l Q:=by
 have v0:=g.v0;have v24:=g.v24
 refine eV ht ?_
 rw [jH.2 g]
 refine bi (λhc=>by cases hc) (λ_=>BF hp om om hb (bi (λhc=>by cases hc) (λ_=>Fg ht (λhc=>absurd (jH.2 g) hc) λ_ hV=>bi (λhc=>by cases hc) (λ_=>?_))))
 obtain ⟨hO,hl,hpm⟩:=Dy g hV
 refine hB _ hO hl _ (λh4=>bi (λ_=>h4) (λhc=>by cases hc)) (bi (λhc=>by cases hc) (λ_=>?_))
 have hln:(dY f).length=f.Vars.toNat:=om
 have hp':PL l p (dY f).length:=by rw [hln];exact hp
 obtain ⟨w1,_,w3,w4⟩:=rN hO.ord WT.nil (Gt (f:=f) hO hl)
 have hlen:=vN (jp (dY f)) (fF f) []
 have h24:2^(jp (dY f)).length<=16777216:=qk (by rw [gD];exact hO.le)
 have h24':(vz (dY f) (fF f)).Nodes.length<=16777216:=by
  show (dj (jp (dY f)) (fF f) []).1.length<=16777216
  rw [List.length_nil,Nat.zero_add] at hlen
  omega
 have hroot:pr p (vz (dY f) (fF f)).Nodes (jp (dY f)) (vz (dY f) (fF f)).Root.toNat=exF p f:=by
  unfold pr exF
  rw [EP hpm hO.nodup]
  refine nN _ λτ=>?_
  congr 1
  exact w4 τ
 have hRp:=CW (N:=(vz (dY f) (fF f)).Nodes) (r:=(vz (dY f) (fF f)).Root.toNat) hO.ord hp' hO.le
 rw [hroot] at hRp
 refine ⟨_,Co hO.ord w1 hp' hO.le h24' rfl,_,Gc (Nat.le_trans h24' (by decide)) (by show (0:Int)<=((dj (jp (dY f)) (fF f) []).2:Int);omega) (by show (((dj (jp (dY f)) (fF f) []).2:Nat):Int)<2+((dj (jp (dY f)) (fF f) []).1.length:Int);omega) rfl,?_⟩
 rw [hroot]
 exact hQ hRp
end Go.Gg
namespace Go.Gg
structure WrM (m:GMission):Prop where
 lf:m.Phases.length<=9223372036854775807
 lp:m.P.length<=9223372036854775807
 lr:∀i:Nat,i<m.P.length->(at' m.P (i:Int)).length<=9223372036854775807
 top:∀j:Nat,j<m.Phases.length->rng (at' m.Phases (j:Int)).Top
 wd:∀i:Nat,i<m.P.length->WrL (at' m.P (i:Int))
def FrM (m:GMission):Prop:=∀i:Nat,i<m.P.length->∀j:Nat,j<(at' m.P (i:Int)).length->Fr (at' (at' m.P (i:Int)) (j:Int))/\RB 129 (bT (at' (at' m.P (i:Int)) (j:Int)))
def evt (m:GMission):Int:=(at' m.Phases 0).Vars
def phE (m:GMission) (j:Nat):Int:=if jr (at' m.Phases (j:Int))≠0 then jr (at' m.Phases (j:Int)) else if (at' m.Phases (j:Int)).Vars≠evt m then 11 else 0
def my (m:GMission) (i:Nat):Int:=if (at' m.P (i:Int)).length≠m.Phases.length then 11 else if ∃j:Nat,j<(at' m.P (i:Int)).length/\gb (at' (at' m.P (i:Int)) (j:Int))=false then 3 else 0
def dk (m:GMission):Int:=
 if m.Phases.length=0 then 11 else if 6<m.Phases.length then 4 else if jC (phE m) m.Phases.length≠0 then jC (phE m) m.Phases.length
 else if 24<evt m*(m.Phases.length:Int) then 4 else if (m.P.length:Int)≠evt m then 11 else jC (my m) m.P.length
def n_ (m:GMission) (l:List Int):Int:=
 if dk m≠0 then dk m else if l.length≠m.P.length then 11 else if ∃i:Nat,i<l.length/\(at' l (i:Int)<0\/(m.Phases.length:Int)<at' l (i:Int)) then 3 else 0
theorem xF {m:GMission} {j:Nat} (_:j<m.Phases.length) (h:phE m j=0):FG (at' m.Phases (j:Int))/\(at' m.Phases (j:Int)).Vars=evt m:=by
 unfold phE at h
 split at h
 ·rename_i h1;exact absurd h h1
 ·rename_i h1
  have h1:jr (at' m.Phases (j:Int))=0:=Classical.not_not.1 h1
  split at h
  ·cases h
  ·rename_i h2;exact ⟨jH.1 h1,Classical.not_not.1 h2⟩
theorem nO {e:Int} (h:e≠0):j4 e=some e:=by unfold j4;rw [if_neg h]
theorem we {l:List GRat} {Q:Bool->Prop} (ll:l.length<=9223372036854775807) (hf:∀j:Nat,j<l.length->Fr (at' l (j:Int))) (h:Q (decide (∃j:Nat,j<l.length/\gb (at' l (j:Int))=false))) :
  bo l Q:=by
 unfold bo bO
 refine l8 (λj=>gb (at' l (j:Int))=false) ll (λj next hj hI hnx=>?_) (λhall=>?_)
 ·refine ⟨⟨by omega,by omega⟩,nX (hf j hj) (bi (λhb=>?_) (λhb=>?_))⟩
  ·have e:decide ((0:Int)<=(j:Int))=true:=decide_eq_true om
   show Q (decide ((0:Int)<=(j:Int)))
   rw [e]
   rw [decide_eq_true ⟨j,hj,by simpa using hb⟩] at h
   exact h
  ·exact hnx (by simpa using hb)
 ·show Q (decide ((0:Int)<=-1))
  rw [decide_eq_false (by rintro ⟨j,hj,hb⟩;exact hall j hj hb)] at h
  exact h
theorem i6 {m:GMission} {Q:Option Int->Prop} (w:WrM m) (hf:FrM m) (h:Q (j4 (dk m))):fp m Q:=by
 unfold dk at h
 refine bH (λh0=>?_) (λh0=>?_)
 ·rw [if_pos om] at h;exact h
 rw [if_neg om] at h
 refine condT (λh6=>?_) (λh6=>?_)
 ·rw [if_pos om] at h;exact h
 rw [if_neg om] at h
 refine ⟨⟨by omega,by omega⟩,?_⟩
 refine l8 (λj=>phE m j≠0) w.lf (λj next hj hI hnx=>?_) (λhall=>?_)
 ·refine ⟨⟨by omega,by omega⟩,eV (w.top j hj) ?_⟩
  have hz:∀i,i<j->phE m i=0:=λi hi=>Classical.not_not.1 (hI i hi)
  have hit:phE m j≠0->Q (j4 (phE m j)):=λhne=>by
   rw [gG hz hne _ hj,if_pos hne] at h;exact h
  rw [dI]
  refine condT (λhe=>?_) (λhe=>e_ (λ(hv:(at' m.Phases (j:Int)).Vars≠evt m)=>?_) (λ(hv:(at' m.Phases (j:Int)).Vars=evt m)=>hnx ?_))
  ·have e:phE m j=jr (at' m.Phases (j:Int)):=by unfold phE;rw [if_pos he]
   rw [<-e];exact hit (by rw [e];exact he)
  ·have e:phE m j=11:=by unfold phE;rw [if_neg he,if_pos hv]
   have:=hit (by rw [e];decide)
   rw [e] at this;exact this
  ·unfold phE
   rw [if_neg he,if_neg (λhh=>hh hv)]
   simp
 have hz:∀i,i<m.Phases.length->phE m i=0:=λi hi=>Classical.not_not.1 (hall i hi)
 rw [if_neg (by rw [b8.2 hz];simp)] at h
 obtain ⟨g0,_⟩:=xF (m:=m) (j:=0) om (hz 0 om)
 have e0:evt m=(at' m.Phases 0).Vars:=rfl
 have v1:0<=evt m/\evt m<=24:=⟨g0.v0,g0.v24⟩
 have hm:0<=evt m*(m.Phases.length:Int)/\evt m*(m.Phases.length:Int)<=24*6:=⟨Int.mul_nonneg v1.1 om,Int.mul_le_mul v1.2 om om om⟩
 rw [<-e0]
 refine ⟨by unfold rng;omega,condT (λh24=>?_) (λh24=>e_ (λhp=>?_) (λhp=>?_))⟩
 ·rw [if_pos h24] at h;exact h
 ·rw [if_neg h24,if_pos hp] at h;exact h
 rw [if_neg h24,if_neg (λhh=>hh hp)] at h
 refine l8 (λi=>my m i≠0) w.lp (λi next hi hI hnx=>?_) (λhall2=>?_)
 ·have hz:∀k,k<i->my m k=0:=λk hk=>Classical.not_not.1 (hI k hk)
  have hit:my m i≠0->Q (j4 (my m i)):=λhne=>by
   rw [gG hz hne _ hi] at h;exact h
  refine ⟨⟨by omega,by omega⟩,e_ (λhl=>?_) (λhl=>?_)⟩
  ·have e:my m i=11:=by unfold my;rw [if_pos om]
   have:=hit (by rw [e];decide)
   rw [e] at this;exact this
  ·refine we (w.lr i hi) (λj hj=>(hf i hi j hj).1) (bi (λhb=>?_) (λhb=>hnx ?_))
   ·have e:my m i=3:=by unfold my;rw [if_neg om,if_pos (of_decide_eq_true hb)]
    have:=hit (by rw [e];decide)
    rw [e] at this;exact this
   ·unfold my
    rw [if_neg om,if_neg (of_decide_eq_false hb)]
    simp
 ·rw [b8.2 λi hi=>Classical.not_not.1 (hall2 i hi)] at h
  exact h
theorem gt {m:GMission} {Q:Int->Prop} (h0:0<m.Phases.length) (h:Q (evt m)):cF m Q:=⟨⟨by omega,by omega⟩,h⟩
theorem fl {m:GMission} {K:Int->Prop} (h0:0<m.Phases.length) (h:K (evt m)):cP (cF m) K:=⟨_,gt h0 rfl,h⟩
theorem mC {m:GMission} {Q:Int->Prop} (w:WrM m) (hf:FrM m) (h:Q (dk m)):h_ m Q:=by
 unfold dk at h
 refine bH (λh0=>?_) (λh0=>?_)
 ·rw [if_pos om] at h;exact e_ (λ_=>h) (λhh=>by cases hh)
 rw [if_neg om] at h
 refine condT (λh6=>?_) (λh6=>?_)
 ·rw [if_pos om] at h;exact e_ (λ_=>h) (λhh=>by cases hh)
 rw [if_neg om] at h
 have hp0:0<m.Phases.length:=om
 refine l8 (λj=>phE m j≠0) w.lf (λj next hj hI hnx=>?_) (λhall=>?_)
 ·refine ⟨⟨by omega,by omega⟩,v9 (w.top j hj) ?_⟩
  have hz:∀i,i<j->phE m i=0:=λi hi=>Classical.not_not.1 (hI i hi)
  have hit:phE m j≠0->Q (phE m j):=λhne=>by
   rw [gG hz hne _ hj,if_pos hne] at h;exact h
  refine e_ (λhe=>e_ (λ_=>?_) (λhh=>absurd hh he)) (λhe=>⟨⟨by omega,by omega⟩,fl hp0 (e_ (λhv=>e_ (λ_=>?_) (λhh=>by cases hh)) (λhv=>hnx ?_))⟩)
  ·have e:phE m j=jr (at' m.Phases (j:Int)):=by unfold phE;rw [if_pos he]
   rw [<-e];exact hit (by rw [e];exact he)
  ·have e:phE m j=11:=by unfold phE;rw [if_neg (λhh=>hh he),if_pos hv]
   have:=hit (by rw [e];decide)
   rw [e] at this;exact this
  ·unfold phE
   rw [if_neg (λhh=>hh he),if_neg (λhh=>hh hv)]
   simp
 have hz:∀i,i<m.Phases.length->phE m i=0:=λi hi=>Classical.not_not.1 (hall i hi)
 rw [if_neg (by rw [b8.2 hz];simp)] at h
 obtain ⟨g0,_⟩:=xF (m:=m) (j:=0) om (hz 0 om)
 have v1:0<=evt m/\evt m<=24:=⟨g0.v0,g0.v24⟩
 have hm:0<=evt m*(m.Phases.length:Int)/\evt m*(m.Phases.length:Int)<=24*6:=⟨Int.mul_nonneg v1.1 om,Int.mul_le_mul v1.2 om om om⟩
 refine e_ (λhh=>absurd rfl hh) (λ_=>fl hp0 ⟨by unfold rng;omega,condT (λh24=>?_) (λh24=>fl hp0 (e_ (λhp=>?_) (λhp=>?_)))⟩)
 ·rw [if_pos h24] at h;exact h
 ·rw [if_neg h24,if_pos hp] at h;exact h
 rw [if_neg h24,if_neg (λhh=>hh hp)] at h
 refine l8 (λi=>my m i≠0) w.lp (λi next hi hI hnx=>?_) (λhall2=>?_)
 ·have hz:∀k,k<i->my m k=0:=λk hk=>Classical.not_not.1 (hI k hk)
  have hit:my m i≠0->Q (my m i):=λhne=>by
   rw [gG hz hne _ hi] at h;exact h
  refine ⟨⟨by omega,by omega⟩,e_ (λhl=>?_) (λhl=>?_)⟩
  ·have e:my m i=11:=by unfold my;rw [if_pos om]
   have:=hit (by rw [e];decide)
   rw [e] at this;exact this
  ·have lr:=w.lr i hi
   refine cY (n:=(at' m.P (i:Int)).length) (λj y=>y=(j:Int)/\∀k:Nat,k<j->gb (at' (at' m.P (i:Int)) (k:Int))=true) (λy=>y) 0 (λj y h=>by rw [h.1,Int.add_zero]) ⟨rfl,λk hk=>absurd hk om⟩ ?_ ?_
   ·rintro j _ next2 hj ⟨rfl,hI2⟩ hn2
    refine ⟨⟨by omega,by omega⟩,condT (λhc=>⟨⟨by omega,by omega⟩,⟨by omega,by omega⟩,xm (hf i hi j hj).1 (hf i hi j hj).2 (by decide) (bi (λhb=>?_) (λhb=>?_))⟩) (λhc=>absurd (show (j:Int)<((at' m.P (i:Int)).length:Int) by omega) hc)⟩
    ·have e:my m i=3:=by unfold my;rw [if_neg om,if_pos ⟨j,hj,by simpa using hb⟩]
     have:=hit (by rw [e];decide)
     rw [e] at this;exact this
    ·refine ⟨by unfold rng;omega,hn2 _ ⟨by omega,λk hk=>?_⟩⟩
     rcases Nat.lt_or_ge k j with h1 | h1
     ·exact hI2 k h1
     ·obtain rfl:k=j:=om
      simpa using hb
   ·rintro _ next2 ⟨rfl,hI2⟩
    refine ⟨⟨by omega,by omega⟩,condT (λhc=>absurd hc om) (λ_=>hnx ?_)⟩
    unfold my
    rw [if_neg om,if_neg (by rintro ⟨k,hk,hb⟩;rw [hI2 k hk] at hb;cases hb)]
    simp
 ·rw [b8.2 λi hi=>Classical.not_not.1 (hall2 i hi)] at h
  exact h
theorem Gn {m:GMission} (h:dk m=0):(0<m.Phases.length/\m.Phases.length<=6)/\(∀j:Nat,j<m.Phases.length->FG (at' m.Phases (j:Int))/\(at' m.Phases (j:Int)).Vars=evt m)/\(0<=evt m/\evt m*(m.Phases.length:Int)<=24)/\(m.P.length:Int)=evt m/\
  ∀i:Nat,i<m.P.length->(at' m.P (i:Int)).length=m.Phases.length/\∀j:Nat,j<m.Phases.length->gb (at' (at' m.P (i:Int)) (j:Int))=true:=by
 unfold dk at h
 split at h
 ·cases h
 rename_i h0
 split at h
 ·cases h
 rename_i h6
 split at h
 ·rename_i h1;exact absurd h h1
 rename_i h1
 have hz:=b8.1 (Classical.not_not.1 h1)
 split at h
 ·cases h
 rename_i h24
 split at h
 ·cases h
 rename_i hp
 have hr:=b8.1 h
 refine ⟨⟨by omega,by omega⟩,λj hj=>xF hj (hz j hj),⟨?_,by omega⟩,Classical.not_not.1 hp,λi hi=>?_⟩
 ·obtain ⟨g0,e⟩:=xF (m:=m) (j:=0) om (hz 0 om)
  rw [<-e];exact g0.v0
 ·have:=hr i hi
  unfold my at this
  split at this
  ·cases this
  ·rename_i hl
   have hl:(at' m.P (i:Int)).length=m.Phases.length:=Classical.not_not.1 hl
   split at this
   ·cases this
   ·rename_i he
    refine ⟨hl,λj hj=>?_⟩
    cases hb:gb (at' (at' m.P (i:Int)) (j:Int)) with
    | true=>rfl
    | false=>exact absurd ⟨j,by omega,hb⟩ he
theorem js {m:GMission} {l:List Int} {Q:Option Int->Prop} (w:WrM m) (hf:FrM m) (ll:l.length<=9223372036854775807) (h:Q (j4 (n_ m l))):eM m l Q:=by
 unfold n_ at h
 refine i6 w hf ?_
 rw [dI]
 refine condT (λhe=>?_) (λhe=>e_ (λhl=>?_) (λhl=>?_))
 ·rw [if_pos he] at h;exact h
 ·rw [if_neg he,if_pos om] at h;exact h
 rw [if_neg he,if_neg om] at h
 refine l8 (λi=>at' l (i:Int)<0\/(m.Phases.length:Int)<at' l (i:Int)) ll (λi next hi hI hnx=>?_) (λhall=>?_)
 ·refine ⟨⟨by omega,by omega⟩,λy=>y=decide (at' l (i:Int)<0\/(m.Phases.length:Int)<at' l (i:Int)),?_,?_⟩
  ·exact condT (λhc=>(decide_eq_true (Or.inl hc)).symm) (λhc=>decide_eq_decide.2 ⟨Or.inr,λhh=>hh.resolve_left hc⟩)
  ·rintro _ rfl
   refine condT (λhb=>?_) (λhb=>hnx hb)
   rw [if_pos ⟨i,hi,hb⟩] at h;exact h
 ·rw [if_neg (by rintro ⟨i,hi,hb⟩;exact hall i hi hb)] at h
  exact h
end Go.Gg
namespace Go.Gg
structure OkM (m:GMission):Prop where
 w:WrM m
 f:FrM m
 k0:0<m.Phases.length
 k6:m.Phases.length<=6
 fg:∀j:Nat,j<m.Phases.length->FG (at' m.Phases (j:Int))/\(at' m.Phases (j:Int)).Vars=evt m
 ev:(m.P.length:Int)=evt m
 n24:m.P.length*m.Phases.length<=24
 row:∀i:Nat,i<m.P.length->(at' m.P (i:Int)).length=m.Phases.length
 prob:∀i:Nat,i<m.P.length->∀j:Nat,j<m.Phases.length->gb (at' (at' m.P (i:Int)) (j:Int))=true
theorem okM {m:GMission} (w:WrM m) (hf:FrM m) (h:dk m=0):OkM m:=by
 obtain ⟨h1,h2,h3,h4,h5⟩:=Gn h
 refine ⟨w,hf,h1.1,h1.2,h2,h4,?_,λi hi=>(h5 i hi).1,λi hi=>(h5 i hi).2⟩
 have e:((m.P.length*m.Phases.length:Nat):Int)=evt m*(m.Phases.length:Int):=by rw [<-h4];simp
 omega
theorem OkM.p24 {m:GMission} (o:OkM m):m.P.length<=24:=by
 have h1:=o.n24
 have h2:m.P.length*1<=m.P.length*m.Phases.length:=Nat.mul_le_mul_left _ o.k0
 omega
def OkH (m:GMission) (l:List Int):Prop:=l.length=m.P.length/\∀i:Nat,i<l.length->0<=at' l (i:Int)/\at' l (i:Int)<=(m.Phases.length:Int)
theorem okH {m:GMission} {l:List Int} (h:n_ m l=0):dk m=0/\OkH m l:=by
 unfold n_ at h
 split at h
 ·rename_i h1;exact absurd h h1
 rename_i h1
 split at h
 ·cases h
 rename_i h2
 split at h
 ·cases h
 rename_i h3
 refine ⟨Classical.not_not.1 h1,Classical.not_not.1 h2,λi hi=>?_⟩
 have:¬(at' l (i:Int)<0\/(m.Phases.length:Int)<at' l (i:Int)):=λhh=>h3 ⟨i,hi,hh⟩
 omega
theorem G5 {m:GMission} {l:List Int} (h:dk m=0) (hl:OkH m l):n_ m l=0:=by
 unfold n_
 rw [if_neg (λhh=>hh h),if_neg (λhh=>hh hl.1),if_neg]
 rintro ⟨i,hi,hh⟩
 have:=hl.2 i hi
 omega
def wS (l:List Int) (j:Int) (i:Nat):Bool:=decide (at' l (i:Int)<=j)
def lM (l:List Int) (j:Int):Nat:=jg (wS l j) l.length
theorem n0 {l:List Int} {j:Int} {Q:Int->Prop} (hl:l.length<=60) (h:Q (lM l j:Int)):kg l j Q:=by
 refine dq (n:=l.length) (λi=>((jg (wS l j) i:Int),(i:Int))) (λy=>y.2) 0 (λi=>by simp) rfl ?_ ?_
 ·intro i next hi hn
  refine condT (λhc=>⟨⟨by omega,by omega⟩,condT (λhb=>⟨F5 om,by unfold rng;omega,?_⟩) (λhb=>⟨by unfold rng;omega,?_⟩)⟩) (λhc=>absurd (show (i:Int)<(l.length:Int) by omega) hc)
  ·rw [Ep om]
   rw [jg,if_pos (show wS l j i=true from decide_eq_true hb)] at hn
   exact hn
  ·rw [jg,if_neg (show ¬wS l j i=true by simp [wS,hb])] at hn
   exact hn
 ·intro next
  exact condT (λhc=>absurd hc om) (λ_=>h)
theorem ur {l:List Int} {j:Int} {Q:Int->Prop} (hl:l.length<=60) (h:Q (lM l j:Int)):lm l j Q:=n0 hl h
theorem zj {l:List Int} {j:Int}:lM l j<2^l.length:=pi _
def il (g:Nat->Bool):Nat->Nat
 | 0=>0
 | n+1=>if il g n=n then (if g n=true then n else n+1) else il g n
theorem pg {g:Nat->Bool}:∀n,il g n<=n
 | 0=>Nat.le_refl _
 | n+1=>by
  have:=pg (g:=g) n
  rw [il]
  split
  ·split<;>omega
  ·omega
theorem m8 {g:Nat->Bool}:∀n,(∀i,i<n->g i=false)->il g n=n
 | 0,_=>rfl
 | n+1,h=>by rw [il,if_pos (m8 n λi hi=>h i om),if_neg (by rw [h n om];simp)]
theorem rr {g:Nat->Bool} {i:Nat} (h:∀j,j<i->g j=false) (hg:g i=true):∀n,i<n->il g n=i
 | 0,hn=>absurd hn om
 | n+1,hn=>by
  rw [il]
  rcases Nat.lt_or_ge i n with h1 | h1
  ·rw [rr h hg n h1,if_neg om]
  ·obtain rfl:i=n:=om
   rw [if_pos (m8 i h),if_pos hg]
theorem j3 {g:Nat->Bool}:∀ {n i:Nat},i<il g n->g i=false
 | 0,i,h=>by simp [il] at h
 | n+1,i,h=>by
  rw [il] at h
  split at h
  ·rename_i h1
   split at h
   ·exact j3 (n:=n) om
   ·rename_i h2
    rcases Nat.lt_or_ge i n with h3 | h3
    ·exact j3 (n:=n) om
    ·obtain rfl:i=n:=om
     simpa using h2
  ·exact j3 (n:=n) h
theorem xy {g:Nat->Bool}:∀ {n:Nat},il g n<n->g (il g n)=true
 | 0,h=>by simp [il] at h
 | n+1,h=>by
  rw [il] at h ⊢
  split
  ·rename_i h1
   rw [if_pos h1] at h
   split
   ·rename_i h2;exact h2
   ·rename_i h2;rw [if_neg h2] at h;omega
  ·rename_i h1
   have:=pg (g:=g) n
   exact xy (n:=n) om
def bF (m:GMission) (l:List Int):Nat:=il (λj=>FV (at' m.Phases (j:Int)) (lM l (j:Int))) m.Phases.length
theorem EV {f:GFormula} {s:Nat} (g:FG f) (hs:s<2^f.Vars.toNat):wl f (s:Int)=0:=by
 unfold wl
 rw [if_neg (λhh=>hh (jH.2 g)),if_neg]
 rintro (hh | hh)
 ·omega
 ·have e:(2^f.Vars.toNat:Int)=((2^f.Vars.toNat:Nat):Int):=by simp
  rw [e] at hh
  omega
theorem OkM.two {m:GMission} (o:OkM m) {l:List Int} (hl:OkH m l) {j:Nat} (hj:j<m.Phases.length) (k:Int):lM l k<2^(at' m.Phases (j:Int)).Vars.toNat:=by
 have h1:=zj (l:=l) (j:=k)
 have h2:(at' m.Phases (j:Int)).Vars.toNat=l.length:=by rw [(o.fg j hj).2,<-o.ev,hl.1];simp
 rw [h2];exact h1
theorem OkM.small {m:GMission} (o:OkM m) {l:List Int} (hl:OkH m l) (k:Int):lM l k<4294967296:=by
 have h1:=zj (l:=l) (j:=k)
 have h2:=CY (n:=l.length) (by rw [hl.1];exact o.p24)
 omega
theorem uI {m:GMission} {l:List Int} {Q:Int->Option Int->Prop} (w:WrM m) (hf:FrM m) (ll:l.length<=9223372036854775807) (h1:n_ m l≠0->Q 0 (some (n_ m l))) (h2:n_ m l=0->Q (bF m l:Int) none):lE m l Q:=by
 refine js w hf ll ?_
 rw [dI]
 refine condT (λhe=>?_) (λhe=>?_)
 ·rw [nO he];exact h1 he
 have he:=Classical.not_not.1 he
 obtain ⟨hm,hh⟩:=okH he
 have o:=okM w hf hm
 have h2:=h2 he
 refine l8 (λj=>FV (at' m.Phases (j:Int)) (lM l (j:Int))=true) w.lf (λj next hj hI hnx=>?_) (λhall=>?_)
 ·refine ⟨⟨by omega,by omega⟩,_,n0 (by rw [hh.1];have:=o.p24;omega) rfl,?_⟩
  refine ⟨_,_,tO (w.top j hj) (λhc=>absurd (EV (o.fg j hj).1 (o.two hh hj _)) hc) (λ_=>⟨rfl,rfl⟩),?_⟩
  refine bi (λhc=>by cases hc) (λ_=>bi (λhb=>?_) (λhb=>hnx (by rw [Int.toNat_natCast] at hb;rw [hb];simp)))
  rw [Int.toNat_natCast] at hb
  have e:bF m l=j:=rr (g:=λj=>FV (at' m.Phases (j:Int)) (lM l (j:Int))) (λk hk=>by simpa using hI k hk) hb _ hj
  rw [e] at h2;exact h2
 ·have e:bF m l=m.Phases.length:=m8 _ λk hk=>by simpa using hall k hk
  rw [e] at h2;exact h2
theorem v6 {m:GMission} {l:List Int} {Q:Int->Prop} (o:OkM m) (hh:OkH m l) (h2:Q (bF m l:Int)):mB m l Q:=by
 refine l8 (λj=>FV (at' m.Phases (j:Int)) (lM l (j:Int))=true) o.w.lf (λj next hj hI hnx=>?_) (λhall=>?_)
 ·refine ⟨⟨by omega,by omega⟩,_,ur (by rw [hh.1];have:=o.p24;omega) rfl,?_⟩
  refine ⟨_,v7 (o.fg j hj).1 (o.small hh _) rfl,?_⟩
  refine bi (λhb=>?_) (λhb=>hnx (by rw [hb];simp))
  have e:bF m l=j:=rr (g:=λj=>FV (at' m.Phases (j:Int)) (lM l (j:Int))) (λk hk=>by simpa using hI k hk) hb _ hj
  rw [e] at h2;exact h2
 ·have e:bF m l=m.Phases.length:=m8 _ λk hk=>by simpa using hall k hk
  rw [e] at h2;exact h2
theorem nM {i n K:Nat} (hi:i<n):i*K+K<=n*K:=by
 have:=Nat.mul_le_mul_right K hi
 rwa [Nat.succ_mul] at this
def pq (m:GMission) (i j:Nat):Rat:=bT (at' (at' m.P (i:Int)) (j:Int))
def fq (m:GMission) (l:List Int) (i j:Nat):Rat:=if (j:Int)<at' l (i:Int) then 1-pq m i j else pq m i j
def wI (m:GMission) (l:List Int) (q:Rat) (i:Nat):Nat->Rat
 | 0=>q
 | k+1=>wI m l q i k*fq m l i k
def cW (m:GMission) (l:List Int) (i:Nat):Nat:=min ((at' l (i:Int)).toNat+1) m.Phases.length
def wM (m:GMission) (l:List Int):Nat->Rat
 | 0=>1
 | i+1=>wI m l (wM m l i) i (cW m l i)
theorem OkM.pRp {m:GMission} (o:OkM m) {i j:Nat} (hi:i<m.P.length) (hj:j<m.Phases.length):Rp 129 (at' (at' m.P (i:Int)) (j:Int)) (pq m i j):=
 ⟨(o.f i hi j (by rw [o.row i hi];exact hj)).1,rfl,(o.f i hi j (by rw [o.row i hi];exact hj)).2⟩
theorem uN:((1:Int):Rat)=1:=rfl
theorem D' {α:Type} {l:List α} {a:Int} (_:0<=a) (h1:a<=(l.length:Int)):(cE l 0 a).length=a.toNat:=by
 simp [cE];omega
theorem F2 {α:Type} [Inhabited α] {l:List α} {a:Int} {j:Nat} (_:0<=a) (_:a<=(l.length:Int)) (hj:j<a.toNat):at' (cE l 0 a) (j:Int)=at' l (j:Int):=by
 simp [at',cE,List.getD_eq_getElem?_getD,hj]
theorem tB {m:GMission} {l:List Int} {Q:GRat->Option Int->Prop} (w:WrM m) (hf:FrM m) (ll:l.length<=9223372036854775807) (h1:n_ m l≠0->Q (⟨false,[],[]⟩:GRat) (some (n_ m l)))
  (h2:n_ m l=0->Rp 100000 (aY (wM m l l.length)) (wM m l l.length)->Q (aY (wM m l l.length)) none):kh m l Q:=by
 refine js w hf ll ?_
 rw [dI]
 refine condT (λhe=>?_) (λhe=>?_)
 ·rw [nO he];exact h1 he
 have he:=Classical.not_not.1 he
 obtain ⟨hm,hh⟩:=okH he
 have o:=okM w hf hm
 have h2:=h2 he
 have hp:=o.p24
 have hk:=o.k6
 refine Hb (by unfold rng;omega) λr1=>?_
 rw [uN] at r1 ⊢
 refine cY (n:=l.length) (λi y=>y=((i:Int),aY (wM m l i))/\Rp (64+i*2000) (aY (wM m l i)) (wM m l i)) (λy=>y.1) 0 (λi y h=>by rw [h.1];simp) ⟨rfl,r1⟩ ?_ ?_
 ·rintro i _ next hi ⟨rfl,hR⟩ hn
  have hin:i<m.P.length:=by rw [<-hh.1];exact hi
  obtain ⟨h0,hK⟩:=hh.2 i hi
  obtain ⟨a,ha⟩:=Int.eq_ofNat_of_zero_le h0
  have hc:cW m l i=min (a+1) m.Phases.length:=by unfold cW;rw [ha];rfl
  have hmin:(min (at' l (i:Int)+1) (m.Phases.length:Int))=(cW m l i:Int):=by rw [hc,ha];omega
  have hcK:cW m l i<=m.Phases.length:=by rw [hc];omega
  have hrow:=o.row i hin
  refine condT (λ_=>⟨⟨by omega,by omega⟩,⟨by omega,by omega⟩,by unfold rng;omega,⟨by omega,by rw [hmin];omega,by rw [hmin,hrow];omega⟩,?_⟩) (λhc=>absurd (show (i:Int)<(l.length:Int) by omega) hc)
  have hsl:(cE (at' m.P (i:Int)) 0 (min (at' l (i:Int)+1) (m.Phases.length:Int))).length=cW m l i:=by rw [hmin,D' om (by rw [hrow];omega)];simp
  refine cY (n:=cW m l i) (λk y=>y=((k:Int),aY (wI m l (wM m l i) i k))/\Rp (64+i*2000+k*200) (aY (wI m l (wM m l i) i k)) (wI m l (wM m l i) i k)) (λy=>y.1) 0 (λi y h=>by rw [h.1];simp) ⟨rfl,hR⟩ ?_ ?_
  ·rintro k _ next2 hkc ⟨rfl,hR2⟩ hn2
   have hat:at' (cE (at' m.P (i:Int)) 0 (min (at' l (i:Int)+1) (m.Phases.length:Int))) (k:Int)=at' (at' m.P (i:Int)) (k:Int):=by rw [hmin];exact F2 om (by rw [hrow];omega) om
   have hpr:=o.pRp hin (show k<m.Phases.length by omega)
   have key:∀ {z:GRat},Rp 195 z (fq m l i k)->dA (aY (wI m l (wM m l i) i k)) z (λr1=>rng ((k:Int)+1)/\next2 ((k:Int)+1,r1)):=λ{z} hz=>
    Fo hR2 hz (by simp only [cap];omega) λhr=>⟨by unfold rng;omega,hn2 _ ⟨rfl,hr.mono om⟩⟩
   refine condT (λ_=>⟨⟨by omega,by rw [hsl];omega⟩,λz=>Rp 195 z (fq m l i k),?_,λz hz=>key hz⟩) (λhc=>absurd (show (k:Int)<_ by rw [hsl];omega) hc)
   rw [hat]
   refine condT (λhb=>CG r1 hpr (by decide) λhr=>?_) (λhb=>?_)
   ·have e:fq m l i k=1-pq m i k:=by unfold fq;rw [if_pos hb]
    rw [e];exact hr.mono om
   ·have e:fq m l i k=pq m i k:=by unfold fq;rw [if_neg hb]
    rw [e];exact hpr.mono om
  ·rintro _ next2 ⟨rfl,hR2⟩
   refine condT (λhc=>absurd hc (by rw [hsl];omega)) (λ_=>⟨by unfold rng;omega,hn _ ⟨rfl,?_⟩⟩)
   exact hR2.mono om
 ·rintro _ next ⟨rfl,hR⟩
  exact condT (λhc=>absurd hc om) (λ_=>h2 (hR.mono (by rw [hh.1];omega)))
theorem un {m:GMission} {l:List Int} {Q:GRat->Prop} (o:OkM m) (hh:OkH m l) (h2:Rp 100000 (aY (wM m l l.length)) (wM m l l.length)->Q (aY (wM m l l.length))):lj m l Q:=by
 have hp:=o.p24
 have hk:=o.k6
 refine HU (by unfold rng;omega) λr1=>?_
 rw [uN] at r1 ⊢
 refine cY (n:=l.length) (λi y=>y=((i:Int),aY (wM m l i))/\Rp (64+i*2000) (aY (wM m l i)) (wM m l i)) (λy=>y.1) 0 (λi y h=>by rw [h.1];simp) ⟨rfl,r1⟩ ?_ ?_
 ·rintro i _ next hi ⟨rfl,hR⟩ hn
  have hin:i<m.P.length:=by rw [<-hh.1];exact hi
  obtain ⟨h0,hK⟩:=hh.2 i hi
  obtain ⟨a,ha⟩:=Int.eq_ofNat_of_zero_le h0
  have hrow:=o.row i hin
  refine condT (λ_=>?_) (λhc=>absurd (show (i:Int)<(l.length:Int) by omega) hc)
  refine cY (n:=a) (λk y=>y=((k:Int),aY (wI m l (wM m l i) i k))/\Rp (64+i*2000+k*200) (aY (wI m l (wM m l i) i k)) (wI m l (wM m l i) i k)) (λy=>y.1) 0 (λi y h=>by rw [h.1];simp) ⟨rfl,hR⟩ ?_ ?_
  ·rintro k _ next2 hka ⟨rfl,hR2⟩ hn2
   have hpr:=o.pRp hin (show k<m.Phases.length by omega)
   refine ⟨⟨by omega,by omega⟩,condT (λhb=>Fi (by unfold rng;omega) λ_=>?_) (λhc=>absurd (show (k:Int)<at' l (i:Int) by omega) hc)⟩
   rw [uN]
   refine ⟨⟨by omega,by omega⟩,⟨by omega,by rw [hrow];omega⟩,CE r1 hpr (by decide) λhr=>Dh hR2 hr (by simp only [cap];omega) λhr2=>⟨by unfold rng;omega,hn2 _ ⟨?_,?_⟩⟩⟩
   ·rw [wI,fq,if_pos hb];rfl
   ·rw [wI,fq,if_pos hb];exact hr2.mono om
  ·rintro _ next2 ⟨rfl,hR2⟩
   refine ⟨⟨by omega,by omega⟩,condT (λhc=>absurd hc om) (λ_=>⟨⟨by omega,by omega⟩,condT (λhb=>⟨⟨by omega,by omega⟩,⟨by omega,by omega⟩,⟨by omega,by rw [hrow];omega⟩,?_⟩) (λhb=>⟨by unfold rng;omega,hn _ ⟨?_,?_⟩⟩)⟩)⟩
   ·rw [ha] at hb ⊢
    have hc:cW m l i=a+1:=by unfold cW;rw [ha];omega
    have hf:fq m l i a=pq m i a:=by unfold fq;rw [if_neg om]
    have ew:wM m l (i+1)=wI m l (wM m l i) i a*pq m i a:=by rw [wM,hc,wI,hf]
    refine Dh hR2 (o.pRp hin om) (by simp only [cap];omega) λhr=>⟨by unfold rng;omega,hn _ ⟨?_,?_⟩⟩
    ·rw [ew];rfl
    ·rw [ew];exact hr.mono om
   ·rw [ha] at hb hK
    have hc:cW m l i=a:=by unfold cW;rw [ha];omega
    rw [wM,hc];rfl
   ·rw [ha] at hb hK
    have hc:cW m l i=a:=by unfold cW;rw [ha];omega
    rw [wM,hc];exact hR2.mono om
 ·rintro _ next ⟨rfl,hR⟩
  exact condT (λhc=>absurd hc om) (λ_=>h2 (hR.mono (by rw [hh.1];omega)))
end Go.Gg
namespace Go.Gg
def soL (K i j:Nat):List Int:=(List.range j).map λk=>((i*K+k:Nat):Int)
def orN (K i j:Nat):GNode:=⟨3,0,soL K i (j+1)⟩
def orR (K i:Nat) (j:Nat):List GNode:=(List.range (j-1)).map λk=>orN K i (k+1)
def nG (K:Nat):Nat->List GNode
 | 0=>[]
 | i+1=>nG K i++orR K i K
theorem ig {K:Nat}:∀i,(nG K i).length=i*(K-1)
 | 0=>by simp [nG]
 | i+1=>by rw [nG,List.length_append,ig i,orR,List.length_map,List.length_range,Nat.succ_mul]
def byv (n K i j:Nat):Int:=if j=0 then ((i*K:Nat):Int) else ((n*K+i*(K-1)+(j-1):Nat):Int)
def byR (n K i j:Nat):List Int:=(List.range j).map (byv n K i)
def byF (n K i j:Nat):List (List Int):=(List.range n).map λa=>if a<i then byR n K a K else if a=i then byR n K i j else []
theorem cy {α:Type} [Inhabited α] {g:Nat->α} {n i:Nat} (h:i<n):at' ((List.range n).map g) (i:Int)=g i:=by
 simp [at',List.getD_eq_getElem?_getD,h]
theorem xP {α β:Type} [Inhabited α] [Inhabited β] {g:α->β} {l:List α} {i:Nat} (h:i<l.length):at' (l.map g) (i:Int)=g (at' l (i:Int)):=by
 simp [at',List.getD_eq_getElem?_getD,List.getElem?_eq_getElem h]
theorem nD {α:Type} {g:Nat->α} {n:Nat}:(List.range n).map g++[g n]=(List.range (n+1)).map g:=by
 rw [List.range_succ,List.map_append];rfl
theorem xK {n K i j:Nat}:(byF n K i j).length=n:=by simp [byF]
theorem GD {n K i j:Nat} (h:i<n):at' (byF n K i j) (i:Int)=byR n K i j:=by
 unfold byF
 rw [cy h,if_neg om,if_pos rfl]
theorem Bq {n K i j:Nat} (h:i<n):bn (byF n K i j) (i:Int) (byR n K i j++[byv n K i j])=byF n K i (j+1):=by
 refine rC (by simp [bn,byF]) λa ha=>?_
 have ha:a<n:=by simpa [bn,byF] using ha
 rw [jk (by rw [xK];exact h)]
 unfold byF
 rw [cy ha,cy ha]
 by_cases h1:a=i
 ·subst h1
  rw [if_pos rfl,if_neg om,if_pos rfl]
  exact nD
 ·rw [if_neg h1,if_neg h1,if_neg h1]
theorem DE {n K i:Nat}:byF n K i K=byF n K (i+1) 0:=by
 unfold byF
 refine List.map_congr_left λa _=>?_
 rcases Nat.lt_trichotomy a i with h | h | h
 ·rw [if_pos h,if_pos om]
 ·subst h
  rw [if_neg om,if_pos rfl,if_pos om]
 ·rw [if_neg om,if_neg om,if_neg om]
  split
  ·simp [byR]
  ·rfl
theorem DD {n K:Nat}:bp ((n:Nat):Int) ([]:List Int)=byF n K 0 0:=by
 refine rC (by simp [bp,byF]) λa ha=>?_
 have ha:a<n:=by simpa [bp] using ha
 unfold byF
 rw [cy ha,if_neg om]
 have:at' (bp ((n:Nat):Int) ([]:List Int)) (a:Int)=[]:=by simp [at',bp,List.getD_eq_getElem?_getD,ha]
 rw [this]
 split
 ·simp [byR]
 ·rfl
theorem EW {n K a:Nat} (h:a<n):at' (byF n K n 0) (a:Int)=byR n K a K:=by
 unfold byF
 rw [cy h,if_pos h]
theorem xJ {n K i j:Nat}:(byR n K i j).length=j:=by simp [byR]
theorem GC {n K i j k:Nat} (h:k<j):at' (byR n K i j) (k:Int)=byv n K i k:=cy h
def mv (n K j:Nat) (first arg:Int):Int:=if arg<(n:Int) then byv n K arg.toNat j else first+arg-(n:Int)
def phN (n K j:Nat) (first:Int) (l:List GNode):List GNode:=l.map λx=>⟨x.Kind,x.K,x.Args.map (mv n K j first)⟩
def dJ (m:GMission):Nat->List GNode
 | 0=>nG m.Phases.length m.P.length
 | j+1=>dJ m j++phN m.P.length m.Phases.length j (((m.P.length*m.Phases.length+(dJ m j).length:Nat)):Int) (at' m.Phases (j:Int)).Nodes
def fi (m:GMission) (j:Nat):Int:=((m.P.length*m.Phases.length+(dJ m j).length:Nat):Int)
def mT (m:GMission):Nat->List Int
 | 0=>[]
 | j+1=>mT m j++[mv m.P.length m.Phases.length j (fi m j) (at' m.Phases (j:Int)).Top]
def cK (m:GMission):List GNode:=if 1<m.Phases.length then dJ m m.Phases.length++[⟨3,0,mT m m.Phases.length⟩] else dJ m m.Phases.length
def pW (m:GMission):Int:=if 1<m.Phases.length then fi m m.Phases.length else at' (mT m m.Phases.length) 0
def jn (m:GMission):GFormula:=⟨((m.P.length*m.Phases.length:Nat):Int),cK m,pW m⟩
def pn (m:GMission):Nat->List GRat
 | 0=>[]
 | i+1=>pn m i++at' m.P (i:Int)
theorem gp {m:GMission}:∀j,(mT m j).length=j
 | 0=>rfl
 | j+1=>by rw [mT,List.length_append,gp j];rfl
section
variable {m:GMission} (o:OkM m)
include o
theorem OkM.all_len:∀j,j<=m.Phases.length->(dJ m j).length<=24+j*128
 | 0,_=>by
  rw [dJ,ig]
  have h1:=o.n24
  have:m.P.length*(m.Phases.length-1)<=m.P.length*m.Phases.length:=Nat.mul_le_mul_left _ om
  omega
 | j+1,hj=>by
  have h1:=OkM.all_len j om
  have h2:=(o.fg j om).1.n128
  rw [dJ,List.length_append,phN,List.length_map]
  omega
theorem OkM.unfP_len:∀i,i<=m.P.length->(pn m i).length=i*m.Phases.length
 | 0,_=>by simp [pn]
 | i+1,hi=>by rw [pn,List.length_append,OkM.unfP_len i om,o.row i om,Nat.succ_mul]
end
theorem EU {l:List Int} (hl:l.length*8<=140737488355328):d8 l λy=>y=l:=by
 intro b hb
 refine bi (λh=>?_) (λ_=>⟨by simpa using hl,by simp⟩)
 have:=hb h
 match l with
 | []=>rfl
 | _ :: _=>simp at this
theorem DT {kind k2 V T:Int} {args:List Int} {N:List GNode} {Q:List GNode->Int->Prop} (hN:N.length<=1000000) (hV:0<=V/\V<=1000000) (h:Q (N++[⟨kind,k2,args⟩]) (V+(N.length:Int))):dG kind k2 args V T N Q:=by
 have e:((N++[(⟨kind,k2,args⟩:GNode)]).length:Int)=(N.length:Int)+1:=by simp
 have e1:(N++[(⟨kind,k2,args⟩:GNode)]).length=N.length+1:=by simp
 refine ⟨by omega,by unfold rng;omega,by unfold rng;omega,?_⟩
 rw [e,show V+((N.length:Int)+1)-1=V+(N.length:Int) by omega]
 exact h
theorem A' {m:GMission} (o:OkM m) {j:Nat} (hj:j<m.Phases.length) {arg:Int} {a:Nat} (ha:arg=(a:Int)) (hal:a<=1000000) {first:Int} (hf:0<=first/\first<=1000000) {Q:Int->Prop} (h:Q (mv m.P.length m.Phases.length j first arg)) :
  dE arg (at' m.Phases (j:Int)) (j:Int) first (byF m.P.length m.Phases.length m.P.length 0) Q:=by
 have hv:(at' m.Phases (j:Int)).Vars=(m.P.length:Int):=by rw [(o.fg j hj).2,<-o.ev]
 have hp:=o.p24
 subst ha
 unfold mv at h
 unfold dE
 rw [hv]
 refine condT (λhc=>⟨⟨by omega,by rw [xK];omega⟩,?_⟩) (λhc=>?_)
 ·rw [if_pos hc,Int.toNat_natCast] at h
  rw [EW om]
  refine ⟨⟨by omega,by rw [xJ];omega⟩,?_⟩
  rw [GC hj];exact h
 ·rw [if_neg hc] at h
  exact ⟨by unfold rng;omega,by unfold rng;omega,h⟩
end Go.Gg
namespace Go.Gg
theorem ju {α:Type} [Inhabited α] {l:List α} {i:Nat} (h:i<l.length):l.take i++[at' l (i:Int)]=l.take (i+1):=by
 rw [List.take_add_one,List.getElem?_eq_getElem h]
 simp [at',List.getD_eq_getElem?_getD,List.getElem?_eq_getElem h]
theorem nu {K i j:Nat}:(soL K i j).length=j:=by simp [soL]
theorem yr {K i j:Nat}:soL K i j++[((i*K:Nat):Int)+(j:Int)]=soL K i (j+1):=by
 have:=nD (g:=λk=>((i*K+k:Nat):Int)) (n:=j)
 unfold soL
 rw [<-this]
 simp
theorem xr {K i j:Nat}:(orR K i j).length=j-1:=by simp [orR]
theorem yH {K i j:Nat} (h:j≠0):orR K i j++[⟨3,0,soL K i (j+1)⟩]=orR K i (j+1):=by
 obtain ⟨a,rfl⟩:∃a,j=a+1:=⟨j-1,by omega⟩
 exact nD (g:=λk=>orN K i (k+1)) (n:=a)
theorem Et {a:GRat} (h:gb a=true):a=aY (bT a):=by
 unfold gb at h
 rw [Bool.and_eq_true] at h
 exact sm h.1
theorem Eg {n:Nat} (h:n<=1000000):rng (n:Int):=by unfold rng;omega
theorem yG {n K j t:Nat} {first:Int} {l:List GNode} (ht:t<l.length):phN n K j first (l.take t)++[⟨(at' l (t:Int)).Kind,(at' l (t:Int)).K,(at' l (t:Int)).Args.map (mv n K j first)⟩]=phN n K j first (l.take (t+1)):=by
 rw [<-ju ht,phN,phN,List.map_append];rfl
theorem OkM.arg_ok {m:GMission} (o:OkM m) {j t a:Nat} (hj:j<m.Phases.length) (ht:t<(at' m.Phases (j:Int)).Nodes.length) (ha:a<(at' (at' m.Phases (j:Int)).Nodes (t:Int)).Args.length) :
  ∃b:Nat,at' (at' (at' m.Phases (j:Int)).Nodes (t:Int)).Args (a:Int)=(b:Int)/\b<=1000:=by
 have g:=(o.fg j hj).1
 obtain ⟨h0,h1⟩:=(gC (g.node t ht)).arg a ha
 obtain ⟨b,hb⟩:=Int.eq_ofNat_of_zero_le h0
 have:=g.v24
 have:=g.n128
 exact ⟨b,hb,by omega⟩
theorem tC {m:GMission} {Q:GFormula->List GRat->Option Int->Prop} (w:WrM m) (hf:FrM m) (h1:dk m≠0->Q ⟨0,[],0⟩ [] (some (dk m))) (h4:dk m=0->128<(cK m).length->Q ⟨0,[],0⟩ [] (some 4))
  (h2:dk m=0->(cK m).length<=128->Q (jn m) (pn m m.P.length) none):ko m Q:=by
 refine i6 w hf ?_
 rw [dI]
 refine condT (λhe=>?_) (λhe=>?_)
 ·rw [nO he];exact h1 he
 have he:=Classical.not_not.1 he
 have o:=okM w hf he
 have h4:=h4 he
 have h2:=h2 he
 have hp:=o.p24
 have hk6:=o.k6
 have hk0:=o.k0
 have hn:=o.n24
 have e1:(m.P.length:Int)*(m.Phases.length:Int)=((m.P.length*m.Phases.length:Nat):Int):=by simp
 rw [e1]
 refine ⟨Eg om,⟨by omega,by omega,by omega,by omega⟩,?_⟩
 refine dq (n:=m.P.length) (λi=>((i:Int),byF m.P.length m.Phases.length i 0,nG m.Phases.length i)) (λy=>y.1) 0 (λi=>by simp) (by rw [DD];rfl) ?_ ?_
 ·intro i next1 hi hn1
  have hik:i*m.Phases.length<=24:=Nat.le_trans (Nat.mul_le_mul_right _ (Nat.le_of_lt hi)) hn
  have e2:(i:Int)*(m.Phases.length:Int)=((i*m.Phases.length:Nat):Int):=by simp
  have hik1:i*(m.Phases.length-1)<=i*m.Phases.length:=Nat.mul_le_mul_left _ om
  refine condT (λ_=>?_) (λhc=>absurd (show (i:Int)<((Int.toNat (m.P.length:Int):Nat):Int) by omega) hc)
  rw [e2]
  refine dq (n:=m.Phases.length) (λj=>((j:Int),byF m.P.length m.Phases.length i j,soL m.Phases.length i j,nG m.Phases.length i++orR m.Phases.length i j)) (λy=>y.1) 0 (λj=>by simp) (by simp [soL,orR]) ?_ ?_
  ·intro j next2 hj hn2
   refine condT (λ_=>⟨Eg om,by unfold rng;omega,?_⟩) (λhc=>absurd (show (j:Int)<(m.Phases.length:Int) by omega) hc)
   rw [yr,nu,GD hi]
   have hb1:((0:Int)<=(i:Int)/\(i:Int)<((byF m.P.length m.Phases.length i j).length:Int)):=⟨by omega,by rw [xK];omega⟩
   refine ⟨by omega,bH (λhj0=>⟨hb1,⟨by omega,by omega⟩,?_⟩) (λhj0=>⟨hb1,_,EU (by rw [nu];omega),?_⟩)⟩
   ·obtain rfl:j=0:=om
    have e3:at' (soL m.Phases.length i (0+1)) 0=byv m.P.length m.Phases.length i 0:=by simp [soL,byv,at']
    rw [e3]
    refine ⟨?_,hb1,by unfold rng;omega,?_⟩
    ·rw [List.length_append,xJ];simp
    ·rw [Bq hi]
     have e4:orR m.Phases.length i (0+1)=orR m.Phases.length i 0:=rfl
     rw [e4] at hn2
     exact hn2
   ·have hol:(nG m.Phases.length i++orR m.Phases.length i j).length=i*(m.Phases.length-1)+(j-1):=by rw [List.length_append,ig,xr]
    refine ⟨_,_,DT om om ⟨rfl,rfl⟩,?_⟩
    have e3:((m.P.length*m.Phases.length:Nat):Int)+((nG m.Phases.length i++orR m.Phases.length i j).length:Int)=byv m.P.length m.Phases.length i j:=by
     rw [hol,byv,if_neg om];omega
    rw [e3]
    refine ⟨?_,hb1,by unfold rng;omega,?_⟩
    ·rw [List.length_append,xJ];simp;omega
    ·rw [Bq hi,List.append_assoc,yH om]
     exact hn2
  ·intro next2
   refine condT (λhc=>absurd hc om) (λ_=>⟨by unfold rng;omega,?_⟩)
   rw [DE]
   exact hn1
 intro next1
 refine condT (λhc=>absurd hc om) (λ_=>?_)
 have hfst:∀j,j<=m.Phases.length->0<=fi m j/\fi m j<=10000:=λj hj=>by
  have:=o.all_len j hj
  unfold fi
  omega
 refine dq (n:=m.Phases.length) (λj=>((j:Int),mT m j,dJ m j)) (λy=>y.1) 0 (λj=>by simp) rfl ?_ ?_
 ·intro j next3 hj hn3
  have hall:=o.all_len j om
  have g:=(o.fg j hj).1
  have hn128:=g.n128
  have hv24:=g.v24
  have ef:((m.P.length*m.Phases.length:Nat):Int)+((dJ m j).length:Int)=fi m j:=by unfold fi;omega
  have hfs:=hfst j om
  refine condT (λ_=>⟨⟨by omega,by omega⟩,?_⟩) (λhc=>absurd (show (j:Int)<(m.Phases.length:Int) by omega) hc)
  rw [ef]
  refine ⟨by unfold rng;omega,?_⟩
  refine dq (n:=(at' m.Phases (j:Int)).Nodes.length) (λt=>((t:Int),dJ m j++phN m.P.length m.Phases.length j (fi m j) ((at' m.Phases (j:Int)).Nodes.take t))) (λy=>y.1) 0 (λt=>by simp) (by simp [phN]) ?_ ?_
  ·intro t next4 ht hn4
   have hal:=(gC (g.node t ht)).len
   refine condT (λ_=>⟨⟨by omega,by omega⟩,?_⟩) (λhc=>absurd (show (t:Int)<((at' m.Phases (j:Int)).Nodes.length:Int) by omega) hc)
   refine dq (n:=(at' (at' m.Phases (j:Int)).Nodes (t:Int)).Args.length) (λa=>((a:Int),((at' (at' m.Phases (j:Int)).Nodes (t:Int)).Args.take a).map (mv m.P.length m.Phases.length j (fi m j)))) (λy=>y.1) 0 (λa=>by simp) (by simp) ?_ ?_
   ·intro a next5 ha hn5
    obtain ⟨b,hb,hb1⟩:=o.arg_ok hj ht ha
    refine condT (λ_=>⟨⟨by omega,by omega⟩,ik ?_⟩) (λhc=>absurd (show (a:Int)<((at' (at' m.Phases (j:Int)).Nodes (t:Int)).Args.length:Int) by omega) hc)
    refine A' o hj hb om om ⟨?_,by unfold rng;omega,?_⟩
    ·rw [List.length_append,List.length_map,List.length_take];simp;omega
    ·rw [<-ju ha,List.map_append] at hn5
     exact hn5
   ·intro next5
    refine condT (λhc=>absurd hc om) (λ_=>?_)
    rw [List.take_length]
    refine DT ?_ om ⟨by unfold rng;omega,?_⟩
    ·rw [List.length_append,phN,List.length_map,List.length_take];omega
    ·rw [List.append_assoc,yG ht]
     exact hn4
  ·intro next4
   refine condT (λhc=>absurd hc om) (λ_=>?_)
   rw [List.take_length]
   obtain ⟨b,hb⟩:=Int.eq_ofNat_of_zero_le g.top0
   have htop:=g.top
   refine A' o hj hb om om ⟨?_,by unfold rng;omega,hn3⟩
   rw [List.length_append,gp];simp;omega
 intro next3
 have hall:=o.all_len m.Phases.length om
 refine condT (λhc=>absurd hc om) (λ_=>⟨⟨by omega,by rw [gp];omega⟩,λy=>y=(pW m,cK m),?_,?_⟩)
 ·refine condT (λhc=>DT om om ?_) (λhc=>?_)
  ·have ef:((m.P.length*m.Phases.length:Nat):Int)+((dJ m m.Phases.length).length:Int)=fi m m.Phases.length:=by unfold fi;omega
   rw [ef,pW,cK,if_pos om,if_pos om]
  ·rw [pW,cK,if_neg om,if_neg om]
 rintro _ rfl
 refine condT (λhc=>h4 om) (λhc=>?_)
 have h2:=h2 om
 refine dq (n:=m.P.length) (λi=>((i:Int),pn m i)) (λy=>y.1) 0 (λi=>by simp) rfl ?_ ?_
 ·intro i next6 hi hn6
  have hrow:=o.row i hi
  refine condT (λ_=>⟨⟨by omega,by omega⟩,?_⟩) (λhc=>absurd (show (i:Int)<(m.P.length:Int) by omega) hc)
  refine dq (n:=(at' m.P (i:Int)).length) (λj=>((j:Int),pn m i++(at' m.P (i:Int)).take j)) (λy=>y.1) 0 (λi=>by simp) (by simp) ?_ ?_
  ·intro j next7 hj hn7
   have hpr:=o.pRp hi (show j<m.Phases.length by omega)
   have epq:aY (pq m i j+0)=at' (at' m.P (i:Int)) (j:Int):=by
    rw [Rat.add_zero];exact (Et (o.prob i hi j om)).symm
   refine condT (λ_=>⟨⟨by omega,by omega⟩,FB hpr (.zero (k:=1) (by decide) (by decide)) (by decide) λ_=>⟨?_,by unfold rng;omega,?_⟩⟩) (λhc=>absurd (show (j:Int)<((at' m.P (i:Int)).length:Int) by omega) hc)
   ·have hik:i*m.Phases.length<=24:=Nat.le_trans (Nat.mul_le_mul_right _ (Nat.le_of_lt hi)) hn
    rw [List.length_append,List.length_append,o.unfP_len i om,List.length_take];simp;omega
   ·rw [epq,List.append_assoc,ju hj]
    exact hn7
  ·intro next7
   refine condT (λhc=>absurd hc om) (λ_=>⟨by unfold rng;omega,?_⟩)
   rw [List.take_length]
   exact hn6
 ·intro next6
  exact condT (λhc=>absurd hc om) (λ_=>h2)
end Go.Gg
namespace Go.Gg
theorem G4 {m:GMission} (o:OkM m) {Q:List GNode->Prop} (h:Q (nG m.Phases.length m.P.length)):l_ (m.P.length:Int) (m.Phases.length:Int) Q:=by
 have hp:=o.p24
 have hk6:=o.k6
 have hk0:=o.k0
 have hn:=o.n24
 refine dq (n:=m.P.length) (λi=>((i:Int),nG m.Phases.length i)) (λy=>y.1) 0 (λi=>by simp) rfl ?_ ?_
 ·intro i next1 hi hn1
  have hik:i*m.Phases.length<=24:=Nat.le_trans (Nat.mul_le_mul_right _ (Nat.le_of_lt hi)) hn
  have hik1:i*(m.Phases.length-1)<=i*m.Phases.length:=Nat.mul_le_mul_left _ om
  have e2:(i:Int)*(m.Phases.length:Int)=((i*m.Phases.length:Nat):Int):=by simp
  refine condT (λ_=>?_) (λhc=>absurd (show (i:Int)<(m.P.length:Int) by omega) hc)
  rw [e2]
  refine dq (n:=m.Phases.length-1) (λj=>(((j+1:Nat):Int),nG m.Phases.length i++orR m.Phases.length i (j+1))) (λy=>y.1) 1 (λj=>by simp) (by simp [orR]) ?_ ?_
  ·intro j next2 hj hn2
   refine condT (λ_=>?_) (λhc=>absurd (show ((j+1:Nat):Int)<(m.Phases.length:Int) by omega) hc)
   refine dq (n:=j+1+1) (λk=>((k:Int),soL m.Phases.length i k)) (λy=>y.1) 0 (λk=>by simp) (by simp [soL]) ?_ ?_
   ·intro k next3 hk hn3
    refine condT (λ_=>⟨Eg om,by unfold rng;omega,?_⟩) (λhc=>absurd (show (k:Int)<=((j+1:Nat):Int) by omega) hc)
    rw [yr,nu]
    exact ⟨by omega,by unfold rng;omega,hn3⟩
   ·intro next3
    refine condT (λhc=>absurd hc om) (λ_=>?_)
    rw [List.append_assoc,yH om]
    refine ⟨?_,by unfold rng;omega,hn2⟩
    rw [List.length_append,ig,xr];omega
  ·intro next2
   refine condT (λhc=>absurd hc om) (λ_=>⟨by unfold rng;omega,?_⟩)
   rw [show m.Phases.length-1+1=m.Phases.length by omega]
   exact hn1
 ·intro next1
  exact condT (λhc=>absurd hc om) (λ_=>h)
theorem A3 {m:GMission} (o:OkM m) {j:Nat} (hj:j<m.Phases.length) {arg:Int} {a:Nat} (ha:arg=(a:Int)) (hal:a<=1000000) {first:Int} (hf:0<=first/\first<=1000000) {Q:Int->Prop} (h:Q (mv m.P.length m.Phases.length j first arg)):jK m (j:Int) arg first Q:=by
 subst ha
 have hp:=o.p24
 have hk6:=o.k6
 have hk0:=o.k0
 have hn:=o.n24
 refine fl o.k0 ?_
 rw [<-o.ev]
 unfold mv at h
 refine condT (λhc=>?_) (λhc=>?_)
 ·rw [if_neg om] at h
  exact ⟨by unfold rng;omega,by unfold rng;omega,h⟩
 ·rw [if_pos om,Int.toNat_natCast] at h
  have hak:a*m.Phases.length<=24:=Nat.le_trans (Nat.mul_le_mul_right _ om) hn
  have hak1:a*(m.Phases.length-1)<=a*m.Phases.length:=Nat.mul_le_mul_left _ om
  have e1:(a:Int)*(m.Phases.length:Int)=((a*m.Phases.length:Nat):Int):=by simp
  have e2:(m.P.length:Int)*(m.Phases.length:Int)=((m.P.length*m.Phases.length:Nat):Int):=by simp
  have e3:(m.Phases.length:Int)-1=((m.Phases.length-1:Nat):Int):=om
  have e4:(a:Int)*((m.Phases.length-1:Nat):Int)=((a*(m.Phases.length-1):Nat):Int):=by simp
  unfold byv at h
  refine bH (λh0=>?_) (λh0=>?_)
  ·rw [if_pos om] at h
   rw [e1]
   exact ⟨by unfold rng;omega,h⟩
  ·rw [if_neg om] at h
   rw [e2,e3,e4]
   refine ⟨by unfold rng;omega,by unfold rng;omega,by unfold rng;omega,by unfold rng;omega,by unfold rng;omega,by unfold rng;omega,?_⟩
   have e5:((m.P.length*m.Phases.length:Nat):Int)+((a*(m.Phases.length-1):Nat):Int)+(j:Int)-1=((m.P.length*m.Phases.length+a*(m.Phases.length-1)+(j-1):Nat):Int):=om
   rw [e5];exact h
theorem up {m:GMission} {Q:GFormula->List GRat->Int->Prop} (o:OkM m) (h4:128<(cK m).length->Q ⟨0,[],0⟩ [] 4)
  (h2:(cK m).length<=128->Q (jn m) (pn m m.P.length) 0):lk m Q:=by
 have hp:=o.p24
 have hk6:=o.k6
 have hk0:=o.k0
 have hn:=o.n24
 have e1:(m.P.length:Int)*(m.Phases.length:Int)=((m.P.length*m.Phases.length:Nat):Int):=by simp
 refine fl o.k0 ?_
 rw [<-o.ev,e1]
 refine ⟨Eg om,G4 o ?_⟩
 have hfst:∀j,j<=m.Phases.length->0<=fi m j/\fi m j<=10000:=λj hj=>by
  have:=o.all_len j hj
  unfold fi
  omega
 refine dq (n:=m.Phases.length) (λj=>((j:Int),dJ m j,mT m j)) (λy=>y.1) 0 (λj=>by simp) rfl ?_ ?_
 ·intro j next3 hj hn3
  have hall:=o.all_len j om
  have g:=(o.fg j hj).1
  have hn128:=g.n128
  have hv24:=g.v24
  have ef:((m.P.length*m.Phases.length:Nat):Int)+((dJ m j).length:Int)=fi m j:=by unfold fi;omega
  have hfs:=hfst j om
  refine condT (λ_=>⟨⟨by omega,by omega⟩,?_⟩) (λhc=>absurd (show (j:Int)<(m.Phases.length:Int) by omega) hc)
  rw [ef]
  refine ⟨by unfold rng;omega,?_⟩
  refine dq (n:=(at' m.Phases (j:Int)).Nodes.length) (λt=>((t:Int),dJ m j++phN m.P.length m.Phases.length j (fi m j) ((at' m.Phases (j:Int)).Nodes.take t))) (λy=>y.1) 0 (λt=>by simp) (by simp [phN]) ?_ ?_
  ·intro t next4 ht hn4
   have hal:=(gC (g.node t ht)).len
   have hb:(0:Int)<=(t:Int)/\(t:Int)<((at' m.Phases (j:Int)).Nodes.length:Int):=⟨by omega,by omega⟩
   refine condT (λ_=>⟨hb,hb,?_⟩) (λhc=>absurd (show (t:Int)<((at' m.Phases (j:Int)).Nodes.length:Int) by omega) hc)
   refine dq (n:=(at' (at' m.Phases (j:Int)).Nodes (t:Int)).Args.length) (λa=>((a:Int),((at' (at' m.Phases (j:Int)).Nodes (t:Int)).Args.take a).map (mv m.P.length m.Phases.length j (fi m j)))) (λy=>y.1) 0 (λa=>by simp) (by simp) ?_ ?_
   ·intro a next5 ha hn5
    obtain ⟨b,hb2,hb1⟩:=o.arg_ok hj ht ha
    refine ⟨hb,condT (λ_=>⟨hb,⟨by omega,by omega⟩,_,A3 o hj hb2 om om rfl,?_⟩) (λhc=>absurd (show (a:Int)<((at' (at' m.Phases (j:Int)).Nodes (t:Int)).Args.length:Int) by omega) hc)⟩
    refine ⟨?_,by unfold rng;omega,?_⟩
    ·rw [List.length_append,List.length_map,List.length_take];simp;omega
    ·rw [<-ju ha,List.map_append] at hn5
     exact hn5
   ·intro next5
    refine ⟨hb,condT (λhc=>absurd hc om) (λ_=>?_)⟩
    rw [List.take_length,List.append_assoc,yG ht]
    refine ⟨?_,by unfold rng;omega,hn4⟩
    rw [List.length_append,phN,List.length_map,List.length_take];omega
  ·intro next4
   refine condT (λhc=>absurd hc om) (λ_=>?_)
   rw [List.take_length]
   obtain ⟨b,hb⟩:=Int.eq_ofNat_of_zero_le g.top0
   have htop:=g.top
   refine ⟨_,A3 o hj hb om om rfl,?_,by unfold rng;omega,hn3⟩
   rw [List.length_append,gp];simp;omega
 intro next3
 have hall:=o.all_len m.Phases.length om
 refine condT (λhc=>absurd hc om) (λ_=>⟨⟨by omega,by rw [gp];omega⟩,λy=>y=(pW m,cK m),?_,?_⟩)
 ·have ef:((m.P.length*m.Phases.length:Nat):Int)+((dJ m m.Phases.length).length:Int)=fi m m.Phases.length:=by unfold fi;omega
  have hfs:=hfst m.Phases.length om
  refine condT (λhc=>?_) (λhc=>?_)
  ·rw [ef,pW,cK,if_pos om,if_pos om]
   refine ⟨by unfold rng;omega,?_,rfl⟩
   rw [List.length_append];simp;omega
  ·rw [pW,cK,if_neg om,if_neg om]
 rintro _ rfl
 refine condT (λhc=>h4 om) (λhc=>?_)
 have h2:=h2 om
 refine dq (n:=m.P.length) (λi=>((i:Int),pn m i)) (λy=>y.1) 0 (λi=>by simp) rfl ?_ ?_
 ·intro i next6 hi hn6
  have hik:i*m.Phases.length<=24:=Nat.le_trans (Nat.mul_le_mul_right _ (Nat.le_of_lt hi)) hn
  refine condT (λ_=>⟨⟨by omega,by omega⟩,?_,by unfold rng;omega,hn6⟩) (λhc=>absurd (show (i:Int)<(m.P.length:Int) by omega) hc)
  rw [List.length_append,o.unfP_len i om,o.row i hi];omega
 ·intro next6
  exact condT (λhc=>absurd hc om) (λ_=>h2)
def exM (r:GRat):GMission:=⟨[⟨2,[⟨2,0,[0,1]⟩],2⟩,⟨2,[⟨3,0,[0,1]⟩],2⟩],[[r,r],[r,r]]⟩
def j2:Rat:=((1:Int):Rat) / ((2:Int):Rat)
theorem yZ {m:GMission} (h0:0<m.Phases.length) (h6:m.Phases.length<=6) (hf:∀j:Nat,j<m.Phases.length->jr (at' m.Phases (j:Int))=0/\(at' m.Phases (j:Int)).Vars=evt m) (h24:evt m*(m.Phases.length:Int)<=24) (hp:(m.P.length:Int)=evt m)
  (hr:∀i:Nat,i<m.P.length->(at' m.P (i:Int)).length=m.Phases.length/\∀j:Nat,j<(at' m.P (i:Int)).length->gb (at' (at' m.P (i:Int)) (j:Int))=true):dk m=0:=by
 unfold dk
 have hz:jC (phE m) m.Phases.length=0:=b8.2 λj hj=>by
  unfold phE
  rw [if_neg (λhh=>hh (hf j hj).1),if_neg (λhh=>hh (hf j hj).2)]
 rw [if_neg om,if_neg om,if_neg (λhh=>hh hz),if_neg om,if_neg (λhh=>hh hp)]
 refine b8.2 λi hi=>?_
 unfold my
 rw [if_neg (λhh=>hh (hr i hi).1),if_neg]
 rintro ⟨j,hj,hb⟩
 rw [(hr i hi).2 j hj] at hb
 cases hb
theorem rn:RB 129 j2:=(Ao (oX (n:=1) (k:=6) om (by decide)) (oX (n:=2) (k:=6) om (by decide))).mono om
theorem jD {P:Nat->Prop} (h0:P 0) (h1:P 1):∀i:Nat,i<2->P i:=λi hi=>by
 match i with
 | 0=>exact h0
 | 1=>exact h1
 | i+2=>omega
section
variable {r:GRat} (hr:Fr r) (hv:bT r=j2) (hb:gb r=true)
include hr hv
theorem Hq:FrM (exM r):=jD (jD ⟨hr,by show RB 129 (bT r);rw [hv];exact rn⟩ ⟨hr,by show RB 129 (bT r);rw [hv];exact rn⟩) (jD ⟨hr,by show RB 129 (bT r);rw [hv];exact rn⟩ ⟨hr,by show RB 129 (bT r);rw [hv];exact rn⟩)
omit hv in
theorem Ho:WrM (exM r):=⟨by show 2<=9223372036854775807;decide,by show 2<=9223372036854775807;decide,jD (by show 2<=9223372036854775807;decide) (by show 2<=9223372036854775807;decide),jD (by show rng 2;unfold rng;omega) (by show rng 2;unfold rng;omega),jD (jD ⟨hr.1,hr.2.1⟩ ⟨hr.1,hr.2.1⟩) (jD ⟨hr.1,hr.2.1⟩ ⟨hr.1,hr.2.1⟩)⟩
omit hr hv in
include hb in
theorem Gu:dk (exM r)=0:=
 yZ (by show 0<2;decide) (by show 2<=6;decide) (jD ⟨by show jr ⟨2,[⟨2,0,[0,1]⟩],2⟩=0;decide +kernel,rfl⟩ ⟨by show jr ⟨2,[⟨3,0,[0,1]⟩],2⟩=0;decide +kernel,rfl⟩) (by show (2:Int)*2<=24;decide) rfl (jD ⟨rfl,jD hb hb⟩ ⟨rfl,jD hb hb⟩)
omit hr in
end
end Go.Gg
namespace Go.Gg
def qU (b:Int) (x:GNode):Int:=
 if x.Kind<0\/5<x.Kind then 7
 else if lR x.Kind x.Args.length=false then 11
 else if ∃j<x.Args.length,at' x.Args ((j:Nat):Int)<0\/b<=at' x.Args ((j:Nat):Int) then 10
 else if x.Kind=0 then (if x.K≠0/\x.K≠1 then 3 else 0)
 else if x.Kind=4 then (if x.K<1\/(x.Args.length:Int)<x.K then 3 else 0)
 else if x.K≠0 then 2 else 0
theorem Ey {f:GFormula} {i:Nat}:i8 f i=qU (f.Vars+i) (at' f.Nodes (i:Int)):=rfl
theorem su {b:Int} {x:GNode} (h:qU b x=0) (j:Nat) (hj:j<x.Args.length):0<=at' x.Args (j:Int)/\at' x.Args (j:Int)<b:=by
 unfold qU at h
 split at h
 ·cases h
 split at h
 ·cases h
 split at h
 ·cases h
 rename_i _ _ h3
 rw [not_exists] at h3
 have:=h3 j
 simp only [hj,true_and,not_or] at this
 omega
theorem BN {b b':Int} {x y:GNode} (h:qU b x=0) (hk:y.Kind=x.Kind) (hK:y.K=x.K) (hl:y.Args.length=x.Args.length) (ha:∀j:Nat,j<y.Args.length->0<=at' y.Args (j:Int)/\at' y.Args (j:Int)<b'):qU b' y=0:=by
 unfold qU at h ⊢
 rw [hk,hK,hl]
 split at h
 ·cases h
 rename_i h1
 rw [if_neg h1]
 split at h
 ·cases h
 rename_i h2
 rw [if_neg h2]
 split at h
 ·cases h
 rw [if_neg]
 ·exact h
 ·rintro ⟨j,hj,hb⟩
  have:=ha j om
  omega
theorem yR {b:Int} {l:List Int} (h1:1<=l.length) (h16:l.length<=16) (ha:∀j:Nat,j<l.length->0<=at' l (j:Int)/\at' l (j:Int)<b):qU b ⟨3,0,l⟩=0:=by
 unfold qU
 dsimp only
 rw [if_neg om,if_neg,if_neg,if_neg om,if_neg om,if_neg (by simp)]
 ·rintro ⟨j,hj,hb⟩
  have:=ha j hj
  omega
 ·unfold lR
  rw [if_neg om,if_neg om]
  simp;omega
theorem rK {m:GMission} {j:Nat}:∀J,j<=J->∃r,dJ m J=dJ m j++r
 | 0,h=>by
  obtain rfl:j=0:=om
  exact ⟨[],by simp⟩
 | J+1,h=>by
  rcases Nat.lt_or_ge J j with h1 | h1
  ·obtain rfl:j=J+1:=om
   exact ⟨[],by simp⟩
  ·obtain ⟨r,hr⟩:=rK (m:=m) J h1
   exact ⟨r++phN m.P.length m.Phases.length J (((m.P.length*m.Phases.length+(dJ m J).length:Nat)):Int) (at' m.Phases (J:Int)).Nodes,by rw [dJ,hr,List.append_assoc]⟩
theorem ye {m:GMission} {j:Nat} (hj:j<=m.Phases.length):∃r,cK m=dJ m j++r:=by
 obtain ⟨r,hr⟩:=rK (m:=m) m.Phases.length hj
 unfold cK
 split
 ·exact ⟨r++[⟨3,0,mT m m.Phases.length⟩],by rw [hr,List.append_assoc]⟩
 ·exact ⟨r,hr⟩
theorem kN {α:Type} [Inhabited α] {l r:List α} {t:Nat}:at' (l++r) ((l.length+t:Nat):Int)=at' r (t:Int):=by
 unfold at'
 rw [Int.toNat_natCast,Int.toNat_natCast,List.getD_eq_getElem?_getD,List.getD_eq_getElem?_getD,List.getElem?_append_right om,show l.length+t-l.length=t by omega]
def Cb (b:Int) (l:List GNode):Prop:=∀t:Nat,t<l.length->qU (b+t) (at' l (t:Int))=0
theorem vQ {b:Int} {l r:List GNode} (h1:Cb b l) (h2:Cb (b+l.length) r):Cb b (l++r):=λt ht=>by
 rcases Nat.lt_or_ge t l.length with h | h
 ·rw [eA om om];exact h1 t h
 ·obtain ⟨u,rfl⟩:∃u,t=l.length+u:=⟨t-l.length,by omega⟩
  rw [kN]
  have:=h2 u (by rw [List.length_append] at ht;omega)
  rw [show b+((l.length+u:Nat):Int)=b+(l.length:Int)+(u:Int) by omega]
  exact this
theorem C0 {m:GMission} (o:OkM m):∀i,i<=m.P.length->∀(b:Int),((m.P.length*m.Phases.length:Nat):Int)<=b->Cb b (nG m.Phases.length i)
 | 0,_,b,_=>λt ht=>by simp [nG] at ht
 | i+1,hi,b,hb=>by
  have hk6:=o.k6
  rw [nG]
  refine vQ (C0 o i om b hb) λt ht=>?_
  rw [xr] at ht
  unfold orR
  rw [cy ht]
  refine yR (by rw [nu];omega) (by rw [nu];omega) λj hj=>?_
  rw [nu] at hj
  unfold soL
  rw [cy hj]
  have:=nM (i:=i) (n:=m.P.length) (K:=m.Phases.length) om
  omega
theorem GB {m:GMission} {i j:Nat} (hi:i<m.P.length) (hj:j<m.Phases.length):0<=byv m.P.length m.Phases.length i j/\byv m.P.length m.Phases.length i j<((m.P.length*m.Phases.length+m.P.length*(m.Phases.length-1):Nat):Int):=by
 have h1:=nM (i:=i) (n:=m.P.length) (K:=m.Phases.length) hi
 have h2:=nM (i:=i) (n:=m.P.length) (K:=m.Phases.length-1) hi
 unfold byv
 split
 ·omega
 ·omega
theorem E7 {m:GMission} (j:Nat):m.P.length*(m.Phases.length-1)<=(dJ m j).length:=by
 obtain ⟨r,hr⟩:=rK (m:=m) (j:=0) j om
 rw [hr,List.length_append,dJ,ig];omega
theorem Fm {m:GMission} (o:OkM m) {j:Nat} (hj:j<m.Phases.length) {a:Int} {u:Nat} (h0:0<=a) (h1:a<evt m+u):0<=mv m.P.length m.Phases.length j (fi m j) a/\mv m.P.length m.Phases.length j (fi m j) a<fi m j+u:=by
 have hg:=E7 (m:=m) j
 have he:=o.ev
 unfold mv
 split
 ·have:=GB (m:=m) (i:=a.toNat) (j:=j) om hj
  unfold fi
  omega
 ·unfold fi
  omega
theorem DP {m:GMission} (o:OkM m):∀j,j<=m.Phases.length->Cb ((m.P.length*m.Phases.length:Nat):Int) (dJ m j)
 | 0,_=>C0 o _ (Nat.le_refl _) _ (Int.le_refl _)
 | j+1,hj=>by
  rw [dJ]
  refine vQ (DP o j om) λt ht=>?_
  unfold phN at ht ⊢
  rw [List.length_map] at ht
  rw [xP ht]
  have g:=(o.fg j om).1
  have hn:=g.node t ht
  rw [Ey,(o.fg j om).2] at hn
  refine BN hn rfl rfl (by simp) λa ha=>?_
  simp only [List.length_map] at ha
  dsimp only
  rw [xP ha]
  have h1:=su hn a ha
  have:=Fm o (j:=j) om h1.1 h1.2
  unfold fi at this
  omega
theorem Av {m:GMission} {J j:Nat}:j<J->at' (mT m J) (j:Int)=mv m.P.length m.Phases.length j (fi m j) (at' m.Phases (j:Int)).Top:=by
 induction J with
 | zero=>intro h;omega
 | succ J ih=>
  intro h
  rw [mT]
  rcases Nat.lt_or_ge j J with h1 | h1
  ·rw [eA om (by rw [gp];omega)];exact ih h1
  ·obtain rfl:j=J:=om
   have:=iF (l:=mT m j) (x:=mv m.P.length m.Phases.length j (fi m j) (at' m.Phases (j:Int)).Top)
   rw [gp] at this
   exact this
theorem xb {m:GMission} (o:OkM m) {j:Nat} (hj:j<m.Phases.length):0<=at' (mT m m.Phases.length) (j:Int)/\at' (mT m m.Phases.length) (j:Int)<fi m m.Phases.length:=by
 rw [Av hj]
 have g:=(o.fg j hj).1
 have ht:=g.top
 rw [(o.fg j hj).2] at ht
 have h1:=Fm o hj g.top0 ht
 obtain ⟨r,hr⟩:=rK (m:=m) (j:=j+1) m.Phases.length om
 have hl:(dJ m m.Phases.length).length=(dJ m j).length+(at' m.Phases (j:Int)).Nodes.length+r.length:=by
  rw [hr,List.length_append,dJ,List.length_append,phN,List.length_map]
 unfold fi at h1 ⊢
 omega
theorem zG {m:GMission} (o:OkM m) (h128:(cK m).length<=128):FG (jn m):=by
 have hk6:=o.k6
 have hk0:=o.k0
 have hB:=DP o m.Phases.length (Nat.le_refl _)
 refine ⟨by show (0:Int)<=((m.P.length*m.Phases.length:Nat):Int);omega,by show ((m.P.length*m.Phases.length:Nat):Int)<=24;have:=o.n24;omega,h128,λi hi=>?_,?_,?_⟩
 ·have:Cb ((m.P.length*m.Phases.length:Nat):Int) (cK m):=by
   unfold cK
   split
   ·refine vQ hB λt ht=>?_
    obtain rfl:t=0:=by simpa using ht
    refine yR (by rw [gp];omega) (by rw [gp];omega) λj hj=>?_
    rw [gp] at hj
    have:=xb o hj
    unfold fi at this
    omega
   ·exact hB
  exact this i hi
 ·show 0<=pW m
  unfold pW
  split
  ·unfold fi;omega
  ·exact (xb o hk0).1
 ·show pW m<((m.P.length*m.Phases.length:Nat):Int)+((cK m).length:Int)
  unfold pW cK
  split
  ·unfold fi;rw [List.length_append];simp;omega
  ·have:=(xb o hk0).2
   unfold fi at this
   have e:at' (mT m m.Phases.length) 0=at' (mT m m.Phases.length) ((0:Nat):Int):=rfl
   rw [e];omega
end Go.Gg
namespace Go.Gg
theorem ya {f:GFormula} {s i:Nat} (g:FG f) (hi:i<f.Nodes.length):at' (cd f s f.Nodes.length) (f.Vars+i)=gd (at' f.Nodes (i:Int)) (cd f s f.Nodes.length):=by
 have v0:=g.v0
 rw [mS v0 hi]
 unfold gd
 congr 1
 refine sJ _ λk hk=>?_
 have:=su (g.node i hi) k hk
 exact (iR (m:=i) this.1 om f.Nodes.length om).symm
theorem xH {x:GNode} {v:List Bool}:∀n,0<cnt x v n↔∃j:Nat,j<n/\at' v (at' x.Args (j:Int))=true
 | 0=>by simp [cnt]
 | n+1=>by
  rw [cnt]
  constructor
  ·intro h
   by_cases hv:at' v (at' x.Args (n:Int))=true
   ·exact ⟨n,by omega,hv⟩
   ·rw [if_neg hv] at h
    obtain ⟨j,hj,hh⟩:=(xH n).1 om
    exact ⟨j,by omega,hh⟩
  ·rintro ⟨j,hj,hh⟩
   rcases Nat.lt_or_ge j n with h1 | h1
   ·have:=(xH n).2 ⟨j,h1,hh⟩
    omega
   ·obtain rfl:j=n:=om
    rw [if_pos hh];omega
theorem C1 {l:List Int} {v:List Bool}:gd ⟨3,0,l⟩ v=decide (∃j:Nat,j<l.length/\at' v (at' l (j:Int))=true):=by
 have h:=xH (x:=⟨3,0,l⟩) (v:=v) l.length
 unfold gd m7
 dsimp only at h ⊢
 rw [if_neg om,if_neg om,if_neg om,if_pos rfl]
 exact decide_eq_decide.2 (by rw [<-h];omega)
theorem AU {K:Nat} {i j:Nat} (hj:j<K-1):∀n,i<n->at' (nG K n) ((i*(K-1)+j:Nat):Int)=orN K i (j+1)
 | 0,h=>om
 | n+1,h=>by
  rw [nG]
  rcases Nat.lt_or_ge i n with h1 | h1
  ·have:=nM (i:=i) (n:=n) (K:=K-1) h1
   rw [eA om (by rw [ig];omega)]
   exact AU hj n h1
  ·obtain rfl:i=n:=om
   have:=kN (l:=nG K i) (r:=orR K i K) (t:=j)
   rw [ig] at this
   rw [this]
   unfold orR
   rw [cy hj]
section
variable {m:GMission} (o:OkM m) (h128:(cK m).length<=128) (s:Nat)
theorem w_ {a:Nat} (ha:a<m.P.length*m.Phases.length):at' (cd (jn m) s (cK m).length) (a:Int)=inS s a:=by
 have:=gn (f:=jn m) (s:=s) (a:=(a:Int)) om (by show (a:Int)<((m.P.length*m.Phases.length:Nat):Int);omega) (cK m).length
 rw [Int.toNat_natCast] at this
 exact this
include o h128 in
theorem t7 {t:Nat} (ht:t<(cK m).length):at' (cd (jn m) s (cK m).length) (((m.P.length*m.Phases.length+t:Nat)):Int)=gd (at' (cK m) (t:Int)) (cd (jn m) s (cK m).length):=by
 have:=ya (f:=jn m) (s:=s) (i:=t) (zG o h128) ht
 have e:(((m.P.length*m.Phases.length+t:Nat)):Int)=(jn m).Vars+(t:Int):=by
  show _=((m.P.length*m.Phases.length:Nat):Int)+(t:Int)
  omega
 rw [e]
 exact this
include o h128 in
theorem zE {i j:Nat} (hi:i<m.P.length) (hj:j<m.Phases.length):at' (cd (jn m) s (cK m).length) (byv m.P.length m.Phases.length i j)=decide (∃k,k<=j/\inS s (i*m.Phases.length+k)=true):=by
 have hx:=nM (i:=i) (n:=m.P.length) (K:=m.Phases.length) hi
 unfold byv
 split
 ·rename_i h0
  subst h0
  rw [w_ s om]
  rw [Bool.eq_iff_iff,decide_eq_true_eq]
  constructor
  ·intro h;exact ⟨0,Nat.le_refl _,h⟩
  ·rintro ⟨k,hk,h⟩
   obtain rfl:k=0:=om
   exact h
 ·rename_i h0
  obtain ⟨r,hr⟩:=ye (m:=m) (j:=0) om
  have hy:=nM (i:=i) (n:=m.P.length) (K:=m.Phases.length-1) hi
  have hol:(nG m.Phases.length m.P.length).length=m.P.length*(m.Phases.length-1):=ig _
  have hlt:i*(m.Phases.length-1)+(j-1)<(cK m).length:=by
   rw [hr,List.length_append,dJ,hol];omega
  have e:m.P.length*m.Phases.length+i*(m.Phases.length-1)+(j-1)=m.P.length*m.Phases.length+(i*(m.Phases.length-1)+(j-1)):=om
  rw [e,t7 o h128 s hlt]
  have hat:at' (cK m) ((i*(m.Phases.length-1)+(j-1):Nat):Int)=orN m.Phases.length i j:=by
   rw [hr,dJ,eA om (by rw [hol];omega),AU om _ hi,show j-1+1=j by omega]
  rw [hat,orN,C1,nu]
  refine decide_eq_decide.2 ⟨?_,?_⟩
  ·rintro ⟨k,hk,h⟩
   unfold soL at h
   rw [cy hk,w_ s om] at h
   exact ⟨k,by omega,h⟩
  ·rintro ⟨k,hk,h⟩
   refine ⟨k,by omega,?_⟩
   unfold soL
   rw [cy om,w_ s om]
   exact h
end
def Fits (m:GMission) (s:Nat) (l:List Int):Prop:=l.length=m.P.length/\∀i:Nat,i<m.P.length->∀j:Nat,j<m.Phases.length->(at' l (i:Int)<=(j:Int)↔∃k,k<=j/\inS s (i*m.Phases.length+k)=true)
theorem yQ {x y:GNode} {v v':List Bool} (hk:y.Kind=x.Kind) (hK:y.K=x.K) (hl:y.Args.length=x.Args.length) (h:∀j:Nat,j<x.Args.length->at' v' (at' y.Args (j:Int))=at' v (at' x.Args (j:Int))):gd y v'=gd x v:=by
 have hc:∀n,n<=x.Args.length->cnt y v' n=cnt x v n:=λn=>by
  induction n with
  | zero=>intro _;rfl
  | succ n ih=>intro hn;rw [cnt,cnt,ih om,h n om]
 unfold gd m7
 rw [hk,hK,hl,hc _ (Nat.le_refl _)]
theorem rU {m:GMission} (o:OkM m) (h128:(cK m).length<=128) {s:Nat} {l:List Int} (hf:Fits m s l) {j:Nat} (hj:j<m.Phases.length):∀a:Nat,(a:Int)<evt m+(at' m.Phases (j:Int)).Nodes.length->
  at' (cd (jn m) s (cK m).length) (mv m.P.length m.Phases.length j (fi m j) (a:Int))=at' (cd (at' m.Phases (j:Int)) (lM l (j:Int)) (at' m.Phases (j:Int)).Nodes.length) (a:Int):=by
 intro a
 have he:=o.ev
 have g:=(o.fg j hj).1
 have hv:=(o.fg j hj).2
 induction a using Nat.strongRecOn with
 | _ a ih=>
  intro ha
  unfold mv
  split
  ·rename_i h1
   rw [Int.toNat_natCast,zE o h128 s om hj,gn om (by rw [hv];omega),Int.toNat_natCast,A9]
   unfold lM
   rw [vE,decide_eq_true (show a<l.length by rw [hf.1];omega),Bool.true_and,wS]
   exact decide_eq_decide.2 (hf.2 a om j hj).symm
  ·rename_i h1
   obtain ⟨t,rfl⟩:∃t,a=m.P.length+t:=⟨a-m.P.length,by omega⟩
   have ht:t<(at' m.Phases (j:Int)).Nodes.length:=om
   obtain ⟨r,hr⟩:=ye (m:=m) (j:=j+1) om
   have hlen:(dJ m j).length+t<(cK m).length:=by
    rw [hr,List.length_append,dJ,List.length_append,phN,List.length_map];omega
   have e:fi m j+((m.P.length+t:Nat):Int)-(m.P.length:Int)=((m.P.length*m.Phases.length+((dJ m j).length+t):Nat):Int):=by unfold fi;omega
   rw [e,t7 o h128 s hlen]
   have e2:((m.P.length+t:Nat):Int)=(at' m.Phases (j:Int)).Vars+(t:Int):=by rw [hv];omega
   rw [e2,ya g ht]
   have hat:at' (cK m) (((dJ m j).length+t:Nat):Int)=⟨(at' (at' m.Phases (j:Int)).Nodes (t:Int)).Kind,(at' (at' m.Phases (j:Int)).Nodes (t:Int)).K,(at' (at' m.Phases (j:Int)).Nodes (t:Int)).Args.map (mv m.P.length m.Phases.length j (fi m j))⟩:=by
    rw [hr,dJ,List.append_assoc,kN,eA om (by rw [phN,List.length_map];omega),phN,xP ht]
    rfl
   rw [hat]
   refine yQ rfl rfl (by simp) λk hk=>?_
   dsimp only
   rw [xP hk]
   have harg:=su (g.node t ht) k hk
   obtain ⟨b,hb⟩:=Int.eq_ofNat_of_zero_le harg.1
   rw [hb] at harg ⊢
   rw [hv] at harg
   exact ih b om om
theorem Bb {g:Nat->Bool} {n:Nat}:il g n<n↔∃j,j<n/\g j=true:=by
 constructor
 ·intro h;exact ⟨_,h,xy h⟩
 ·rintro ⟨j,hj,h⟩
  rcases Nat.lt_or_ge (il g n) n with h1 | h1
  ·exact h1
  ·have:=j3 (g:=g) (n:=n) (i:=j) om
   rw [h] at this;cases this
theorem w9 {m:GMission} (o:OkM m) (h128:(cK m).length<=128) {s:Nat} {l:List Int} (hf:Fits m s l) {j:Nat} (hj:j<m.Phases.length):at' (cd (jn m) s (cK m).length) (at' (mT m m.Phases.length) (j:Int))=FV (at' m.Phases (j:Int)) (lM l (j:Int)):=by
 rw [Av hj]
 have g:=(o.fg j hj).1
 have ht:=g.top
 rw [(o.fg j hj).2] at ht
 obtain ⟨a,ha⟩:=Int.eq_ofNat_of_zero_le g.top0
 unfold FV
 rw [ha] at ht ⊢
 exact rU o h128 hf hj a ht
theorem zF {m:GMission} (o:OkM m) (h128:(cK m).length<=128) {s:Nat} {l:List Int} (hf:Fits m s l):FV (jn m) s=decide (bF m l<m.Phases.length):=by
 have hk0:=o.k0
 show at' (cd (jn m) s (cK m).length) (pW m)=_
 unfold bF
 unfold pW
 split
 ·rename_i h1
  have e:cK m=dJ m m.Phases.length++[⟨3,0,mT m m.Phases.length⟩]:=by unfold cK;rw [if_pos h1]
  have hlen:(dJ m m.Phases.length).length+0<(cK m).length:=by rw [e,List.length_append];simp
  unfold fi
  have:=t7 o h128 s hlen
  rw [Nat.add_zero] at this
  rw [this]
  have hat:at' (cK m) ((dJ m m.Phases.length).length:Int)=⟨3,0,mT m m.Phases.length⟩:=by rw [e];exact iF
  rw [hat,C1,gp]
  refine decide_eq_decide.2 ?_
  rw [Bb]
  constructor
  ·rintro ⟨j,hj,h⟩
   rw [w9 o h128 hf hj] at h
   exact ⟨j,hj,h⟩
  ·rintro ⟨j,hj,h⟩
   refine ⟨j,hj,?_⟩
   rw [w9 o h128 hf hj]
   exact h
 ·rename_i h1
  have:=w9 o h128 hf hk0
  have e:at' (mT m m.Phases.length) 0=at' (mT m m.Phases.length) ((0:Nat):Int):=rfl
  rw [e,this,Bool.eq_iff_iff,decide_eq_true_eq,Bb]
  constructor
  ·intro h;exact ⟨0,hk0,h⟩
  ·rintro ⟨j,hj,h⟩
   obtain rfl:j=0:=om
   exact h
end Go.Gg
namespace Go.Gg
def hsL (K:Nat):Nat->List (List Int)
 | 0=>[[]]
 | i+1=>(hsL K i).flatMap λh=>(List.range (K+1)).map λj=>h++[((j:Nat):Int)]
theorem rl {K:Nat}:∀i,(hsL K i).length=(K+1)^i
 | 0=>rfl
 | i+1=>by
  rw [hsL,List.length_flatMap]
  simp only [List.length_map,List.length_range,List.map_const',List.sum_replicate_nat]
  rw [rl i,Nat.pow_succ]
theorem tU {K:Nat}:∀i,∀h∈hsL K i,h.length=i/\∀a:Nat,a<i->0<=at' h (a:Int)/\at' h (a:Int)<=(K:Int)
 | 0,h,hm=>by
  rw [hsL,List.mem_singleton] at hm
  subst hm
  exact ⟨rfl,λa ha=>absurd ha om⟩
 | i+1,h,hm=>by
  rw [hsL,List.mem_flatMap] at hm
  obtain ⟨h0,hm0,hm1⟩:=hm
  obtain ⟨j,hj,rfl⟩:=List.mem_map.1 hm1
  have hj:=List.mem_range.1 hj
  obtain ⟨hl,ha⟩:=tU i h0 hm0
  refine ⟨by simp [hl],λa hai=>?_⟩
  rcases Nat.lt_or_ge a i with h1 | h1
  ·rw [eA om om];exact ha a h1
  ·obtain rfl:a=i:=om
   rw [<-hl,iF];omega
def gq (m:GMission) (i:Nat):Nat->Rat
 | 0=>1
 | k+1=>gq m i k*(1-pq m i k)
def tq (m:GMission) (i j:Nat):Rat:=if j<m.Phases.length then gq m i j*pq m i j else gq m i j
theorem Cg {m:GMission} {l:List Int} {q:Rat} {i a:Nat} (ha:at' l (i:Int)=(a:Int)):∀k,k<=a->wI m l q i k=q*gq m i k
 | 0,_=>by rw [wI,gq];grind
 | k+1,hk=>by
  rw [wI,gq,Cg ha k om,fq,if_pos om]
  grind
theorem Hy {m:GMission} {l:List Int} {q:Rat} {i a:Nat} (ha:at' l (i:Int)=(a:Int)) (hK:a<=m.Phases.length):wI m l q i (cW m l i)=q*tq m i a:=by
 unfold cW tq
 rw [ha,Int.toNat_natCast]
 split
 ·rename_i h
  rw [show min (a+1) m.Phases.length=a+1 by omega,wI,Cg ha a (Nat.le_refl _),fq,if_neg om]
  grind
 ·rw [show min (a+1) m.Phases.length=a by omega,Cg ha a (Nat.le_refl _)]
theorem xY {m:GMission} {l l':List Int}:∀i,(∀a:Nat,a<i->at' l (a:Int)=at' l' (a:Int))->wM m l i=wM m l' i
 | 0,_=>rfl
 | i+1,h=>by
  have h1:=h i om
  have hI:∀q k,wI m l q i k=wI m l' q i k:=λq k=>by
   induction k with
   | zero=>rfl
   | succ k ih=>rw [wI,wI,ih,fq,fq,h1]
  rw [wM,wM,xY i (λa ha=>h a om),hI,cW,cW,h1]
theorem w5 {m:GMission} {h:List Int} {i j:Nat} (hl:h.length=i) (hj:j<=m.Phases.length):wM m (h++[((j:Nat):Int)]) (i+1)=wM m h i*tq m i j:=by
 rw [wM,Hy (a:=j) (by rw [<-hl,iF]) hj]
 congr 1
 exact xY i λa ha=>eA om om
theorem ub {α:Type} {f:α->Rat} {g:α->List α} {c:α->Rat}:∀l:List α,(∀x∈l,((g x).map f).sum=c x)->((l.flatMap g).map f).sum=(l.map c).sum
 | [],_=>by simp
 | x :: l,h=>by
  rw [List.flatMap_cons,List.map_append,List.sum_append,h x (by simp),ub l λy hy=>h y (by simp [hy])]
  simp
theorem AC {α:Type} {f:α->Rat} {q:Rat}:∀l:List α,(l.map λx=>q*f x).sum=q*(l.map f).sum
 | []=>by simp
 | x :: l=>by
  simp only [List.map_cons,List.sum_cons]
  rw [AC l];grind
theorem Fv {α:Type} [Inhabited α] {l:List α} {i:Nat} (hi:i<l.length):at' l (i:Int)∈l:=by
 have e:at' l (i:Int)=l[i]:=by simp [at',List.getD_eq_getElem?_getD,List.getElem?_eq_getElem hi]
 rw [e];exact List.getElem_mem hi
theorem uH {K i n:Nat} (h:i<=n):(K+1)^i<=(K+1)^n:=Nat.pow_le_pow_right om h
theorem zx {K n:Nat} {Q:List (List Int)->Prop} (hK:K<=6) (hn:n<=24) (hb:(K+1)^n<=300) (h:Q (hsL K n)):i2 (n:Int) (K:Int) Q:=by
 have len_i:∀i,i<=n->(hsL K i).length<=300:=λi hi=>by rw [rl];exact Nat.le_trans (uH hi) hb
 refine dq (n:=n) (λi=>(hsL K i,(i:Int))) (λy=>y.2) 0 (λi=>by simp) rfl ?_ ?_
 ·intro i next1 hi hn1
  have l1:=len_i i om
  have l2:=len_i (i+1) om
  refine condT (λ_=>?_) (λhc=>absurd (show (i:Int)<(n:Int) by omega) hc)
  refine dq (n:=(hsL K i).length) (λk=>((k:Int),((hsL K i).take k).flatMap λh=>(List.range (K+1)).map λj=>h++[((j:Nat):Int)])) (λy=>y.1) 0 (λk=>by simp) (by simp) ?_ ?_
  ·intro k next3 hk hn3
   refine condT (λ_=>?_) (λhc=>absurd (show (k:Int)<((hsL K i).length:Int) by omega) hc)
   have hm:=tU i _ (Fv hk)
   refine dq (n:=K+1) (λj=>((j:Int),(((hsL K i).take k).flatMap λh=>(List.range (K+1)).map λj=>h++[((j:Nat):Int)])++(List.range j).map λj=>at' (hsL K i) (k:Int)++[((j:Nat):Int)])) (λy=>y.1) 0 (λk=>by simp) (by simp) ?_ ?_
   ·intro j next5 hj hn5
    have hlen:((((hsL K i).take k).flatMap λh=>(List.range (K+1)).map λj=>h++[((j:Nat):Int)])++(List.range j).map λj=>at' (hsL K i) (k:Int)++[((j:Nat):Int)]).length<=100000:=by
     rw [List.length_append,List.length_map,List.length_range,List.length_flatMap]
     simp only [List.length_map,List.length_range,List.map_const',List.sum_replicate_nat,List.length_take]
     have:min k (hsL K i).length*(K+1)<=300*7:=Nat.mul_le_mul om om
     omega
    refine condT (λ_=>⟨⟨by omega,by omega⟩,by rw [hm.1];omega,by rw [List.length_append,hm.1];simp;omega,?_,by unfold rng;omega,?_⟩) (λhc=>absurd (show (j:Int)<=(K:Int) by omega) hc)
    ·rw [List.length_append];simp only [List.length_singleton];omega
    ·rw [<-nD,<-List.append_assoc] at hn5
     exact hn5
   ·intro next5
    refine condT (λhc=>absurd hc om) (λ_=>⟨by unfold rng;omega,?_⟩)
    rw [<-ju hk,List.flatMap_append] at hn3
    simpa using hn3
  ·intro next3
   refine condT (λhc=>absurd hc om) (λ_=>⟨by unfold rng;omega,?_⟩)
   rw [List.take_length]
   exact hn1
 ·intro next1
  exact condT (λhc=>absurd hc om) (λ_=>h)
theorem Cf {m:GMission} (o:OkM m) {l:List Int}:∀i,i<=m.P.length->RB (64+i*2000) (wM m l i)
 | 0,_=>kU (n:=1) (by unfold rng;omega)
 | i+1,hi=>by
  have h1:=Cf o (l:=l) i om
  have hI:∀k,k<=m.Phases.length->RB (64+i*2000+k*200) (wI m l (wM m l i) i k):=λk=>by
   induction k with
   | zero=>intro _;exact h1
   | succ k ih=>
    intro hk
    have hp:=(o.pRp (i:=i) (j:=k) om om).2.2
    rw [wI]
    refine (qp (ih om) (l:=195) ?_).mono om
    unfold fq
    split
    ·exact (qo (kU (n:=1) (by unfold rng;omega)) hp).mono om
    ·exact hp.mono om
  have hk6:=o.k6
  have hc:cW m l i<=m.Phases.length:=by unfold cW;omega
  rw [wM]
  exact (hI _ hc).mono om
end Go.Gg
namespace Go.Gg
theorem qe {g g':Nat->Bool}:∀n,(∀k,k<n->g k=g' k)->il g n=il g' n
 | 0,_=>rfl
 | n+1,h=>by rw [il,il,qe n λk hk=>h k om,h n om]
theorem Ba {g g':Nat->Bool}:∀n,il (λk=>g k || g' k) n=min (il g n) (il g' n)
 | 0=>rfl
 | n+1=>by
  have h1:=pg (g:=g) n
  have h2:=pg (g:=g') n
  rw [il,il,il,Ba n]
  by_cases ha:il g n=n<;>by_cases hb:il g' n=n
  ·rw [if_pos om,if_pos ha,if_pos hb]
   cases hg:g n<;>cases hg':g' n<;>simp<;>omega
  ·rw [if_neg om,if_pos ha,if_neg hb]
   split<;>omega
  ·rw [if_neg om,if_neg ha,if_pos hb]
   split<;>omega
  ·rw [if_neg om,if_neg ha,if_neg hb]
def kK (K:Nat) (σ:Asg) (i:Nat):Nat:=il (λk=>σ (i*K+k)) K
def ja (K n:Nat) (σ:Asg):List Int:=(List.range n).map λi=>((kK K σ i:Nat):Int)
theorem Dn {K n:Nat} {σ:Asg}:(ja K n σ).length=n:=by simp [ja]
theorem wL {K n:Nat} {σ:Asg}:ja K (n+1) σ=ja K n σ++[((kK K σ n:Nat):Int)]:=by simp [ja,List.range_succ]
theorem A_ {K n i:Nat} {σ:Asg} (h:i<n):at' (ja K n σ) (i:Int)=((kK K σ i:Nat):Int):=cy h
theorem EK {K i:Nat} {σ:Asg}:kK K σ i<=K:=pg K
theorem rm {K:Nat} {σ:Asg}:∀n,ja K n σ∈hsL K n
 | 0=>by simp [ja,hsL]
 | n+1=>by
  rw [wL,hsL,List.mem_flatMap]
  exact ⟨_,rm n,List.mem_map.2 ⟨_,List.mem_range.2 (by have:=EK (K:=K) (i:=n) (σ:=σ);omega),rfl⟩⟩
theorem z8 {K i:Nat} {σ σ':Asg} (h:∀k,k<K->σ (i*K+k)=σ' (i*K+k)):kK K σ i=kK K σ' i:=qe K h
theorem u0 {K n:Nat} {σ σ':Asg} (h:∀i,i<n->kK K σ i=kK K σ' i):ja K n σ=ja K n σ':=
 List.map_congr_left λi hi=>by rw [h i (List.mem_range.1 hi)]
theorem Do {K n i:Nat} {σ σ':Asg} (h:ja K n σ=ja K n σ') (hi:i<n):kK K σ i=kK K σ' i:=by
 have:=congrArg (λl=>at' l (i:Int)) h
 simp only [A_ hi] at this
 omega
theorem Dm {l:List (List Int)} {a b:List Int} (ha:a∈l) (hb:b∈l) (h:l.idxOf a=l.idxOf b):a=b:=by
 have h1:l[l.idxOf a]? = some a:=by rw [List.getElem?_eq_getElem (List.idxOf_lt_length_of_mem ha),List.getElem_idxOf]
 have h2:l[l.idxOf b]? = some b:=by rw [List.getElem?_eq_getElem (List.idxOf_lt_length_of_mem hb),List.getElem_idxOf]
 rw [h,h2] at h1
 exact (Option.some.inj h1).symm
theorem Fd.his {o:List Int} {F:Asg->Bool} {K n:Nat} (hF:∀σ σ',ja K n σ=ja K n σ'->F σ=F σ'):Fd o F ((K+1)^n):=by
 refine λk=>⟨λσ=>(hsL K n).idxOf (ja K n (oe o k σ λ_=>false)),λσ=>?_,λσ σ' h ρ=>hF _ _ (u0 λi hi=>?_)⟩
 ·rw [<-rl]
  exact List.idxOf_lt_length_of_mem (rm n)
 ·have e:=Do (Dm (rm n) (rm n) h) hi
  have split:∀σ:Asg,kK K (oe o k σ ρ) i=min (kK K (oe o k σ λ_=>false) i) (kK K (oe o k (λ_=>false) ρ) i):=λσ=>by
   unfold kK
   rw [<-Ba]
   refine qe K λa _=>?_
   simp only [oe]
   split<;>simp
  rw [split σ,split σ',e]
def pA (m:GMission) (v:Nat):Rat:=pq m (v / m.Phases.length) (v % m.Phases.length)
section
variable {m:GMission}
theorem GZ {i k:Nat} (hk:k<m.Phases.length):pA m (i*m.Phases.length+k)=pq m i k:=by
 unfold pA
 have h1:(i*m.Phases.length+k) / m.Phases.length=i:=by
  rw [Nat.mul_comm,Nat.mul_add_div om,Nat.div_eq_of_lt hk,Nat.add_zero]
 have h2:(i*m.Phases.length+k) % m.Phases.length=k:=by
  rw [Nat.mul_comm,Nat.mul_add_mod,Nat.mod_eq_of_lt hk]
 rw [h1,h2]
theorem blk {i:Nat} {H:Nat->Rat}:∀d k,k+d=m.Phases.length->∀τ:Asg,(∀j,j<k->τ (i*m.Phases.length+j)=false)->
  gq m i k*ex (pA m) (List.range' (i*m.Phases.length+k) d) (λτ'=>H (kK m.Phases.length τ' i)) τ+((List.range k).map λj=>tq m i j*H j).sum=((List.range (m.Phases.length+1)).map λj=>tq m i j*H j).sum
 | 0,k,hk,τ,ht=>by
  have e:kK m.Phases.length τ i=m.Phases.length:=m8 _ λj hj=>ht j om
  rw [List.range'_zero,ex,e,List.range_succ,List.map_append,List.sum_append,show k=m.Phases.length by omega]
  simp only [List.map_cons,List.map_nil,List.sum_cons,List.sum_nil]
  rw [tq,if_neg om]
  grind
 | d+1,k,hk,τ,ht=>by
  have h1:=blk (i:=i) (H:=H) d (k+1) om (cq τ (i*m.Phases.length+k) false) λj hj=>by
   rcases Nat.lt_or_ge j k with h | h
   ·rw [f_ om];exact ht j h
   ·obtain rfl:j=k:=om
    rw [fk]
  have h2:ex (pA m) (List.range' (i*m.Phases.length+k+1) d) (λτ'=>H (kK m.Phases.length τ' i)) (cq τ (i*m.Phases.length+k) true)=H k:=by
   have hc:=rB (p:=pA m) (List.range' (i*m.Phases.length+k+1) d) (g:=λτ'=>H (kK m.Phases.length τ' i)) (g':=λ_=>H k) (σ:=cq τ (i*m.Phases.length+k) true) λτ' hτ=>by
    have hb:∀j,j<=k->τ' (i*m.Phases.length+j)=cq τ (i*m.Phases.length+k) true (i*m.Phases.length+j):=λj hj=>hτ _ (by rw [List.mem_range'_1];omega)
    have e:kK m.Phases.length τ' i=k:=rr (λj hj=>by rw [hb j om,f_ om];exact ht j hj) (by rw [hb k (Nat.le_refl _),fk]) _ om
    rw [e]
   rw [hc,oR]
  rw [List.range'_succ,ex,h2,GZ om]
  rw [List.range_succ,List.map_append,List.sum_append] at h1
  simp only [List.map_cons,List.map_nil,List.sum_cons,List.sum_nil] at h1
  rw [<-h1,gq,<-Nat.add_assoc,show tq m i k=gq m i k*pq m i k by unfold tq;rw [if_pos om]]
  grind
theorem Dr:∀n (G:List Int->Rat) (σ:Asg),ex (pA m) (List.range (n*m.Phases.length)) (λτ=>G (ja m.Phases.length n τ)) σ=((hsL m.Phases.length n).map λh=>wM m h n*G h).sum
 | 0,G,σ=>by
  simp only [Nat.zero_mul,List.range_zero,ex,ja,hsL,List.map_nil,List.map_cons,List.sum_cons,List.sum_nil,wM]
  grind
 | n+1,G,σ=>by
  have er:List.range ((n+1)*m.Phases.length)=List.range (n*m.Phases.length)++List.range' (n*m.Phases.length) m.Phases.length:=by
   rw [Nat.succ_mul,List.range_add,List.range'_eq_map_range]
  have hb:∀τ:Asg,ex (pA m) (List.range' (n*m.Phases.length) m.Phases.length) (λτ'=>G (ja m.Phases.length (n+1) τ')) τ=(λh=>((List.range (m.Phases.length+1)).map λj=>tq m n j*G (h++[((j:Nat):Int)])).sum) (ja m.Phases.length n τ):=λτ=>by
   have h1:=rB (p:=pA m) (List.range' (n*m.Phases.length) m.Phases.length) (g:=λτ'=>G (ja m.Phases.length (n+1) τ')) (g':=λτ'=>(λj:Nat=>G (ja m.Phases.length n τ++[(j:Int)])) (kK m.Phases.length τ' n)) (σ:=τ) λτ' hτ=>by
    have e:ja m.Phases.length n τ'=ja m.Phases.length n τ:=u0 λi hi=>z8 λk hk=>hτ _ (by
     have:=nM (K:=m.Phases.length) hi
     rw [List.mem_range'_1];omega)
    rw [wL,e]
   have h2:=blk (m:=m) (i:=n) (H:=λj=>G (ja m.Phases.length n τ++[(j:Int)])) m.Phases.length 0 om τ λj hj=>absurd hj om
   rw [h1]
   simp only [gq,List.range_zero,List.map_nil,List.sum_nil,Nat.add_zero] at h2
   refine Eq.trans ?_ h2
   grind
  have hn:=Dr n (λh=>((List.range (m.Phases.length+1)).map λj=>tq m n j*G (h++[((j:Nat):Int)])).sum) σ
  rw [er,Af,nN _ hb]
  refine Eq.trans hn ?_
  rw [hsL]
  rw [ub (c:=λh=>wM m h n*((List.range (m.Phases.length+1)).map λj=>tq m n j*G (h++[((j:Nat):Int)])).sum) _ λh hm=>?_]
  have hl:=(tU n h hm).1
  rw [List.map_map,<-AC]
  congr 1
  refine List.map_congr_left λj hj=>?_
  show wM m (h++[((j:Nat):Int)]) (n+1)*G (h++[((j:Nat):Int)])=_
  rw [w5 hl (by have:=List.mem_range.1 hj;omega)]
  grind
end
end Go.Gg
namespace Go.Gg
section
variable {m:GMission}
theorem uY {σ:Asg}:Fits m (jg σ (m.P.length*m.Phases.length)) (ja m.Phases.length m.P.length σ):=by
 refine ⟨Dn,λi hi j hj=>?_⟩
 have hx:=nM (i:=i) (n:=m.P.length) (K:=m.Phases.length) hi
 rw [A_ hi]
 constructor
 ·intro h
  have h1:kK m.Phases.length σ i<m.Phases.length:=om
  refine ⟨kK m.Phases.length σ i,by omega,?_⟩
  rw [xM om]
  exact xy (g:=λk=>σ (i*m.Phases.length+k)) h1
 ·rintro ⟨k,hk,h⟩
  rw [xM om] at h
  rcases Nat.lt_or_ge j (kK m.Phases.length σ i) with h1 | h1
  ·have:=j3 (g:=λk=>σ (i*m.Phases.length+k)) (n:=m.Phases.length) (i:=k) (by unfold kK at h1;omega)
   rw [h] at this;cases this
  ·omega
theorem vK:∀J t,t<(dJ m J).length->t<m.P.length*(m.Phases.length-1)\/∃j u,j<J/\t=(dJ m j).length+u/\u<(at' m.Phases (j:Int)).Nodes.length
 | 0,t,h=>by rw [dJ,ig] at h;exact .inl h
 | J+1,t,h=>by
  rcases Nat.lt_or_ge t (dJ m J).length with h1 | h1
  ·rcases vK J t h1 with h2 | ⟨j,u,hj,h3⟩
   ·exact .inl h2
   ·exact .inr ⟨j,u,by omega,h3⟩
  ·rw [dJ,List.length_append,phN,List.length_map] at h
   exact .inr ⟨J,t-(dJ m J).length,by omega,by omega,by omega⟩
theorem Cs (o:OkM m) (h128:(cK m).length<=128) {s s':Nat} {l:List Int} (hf:Fits m s l) (hf':Fits m s' l) {t:Nat} (ht:t<(cK m).length) :
  at' (cd (jn m) s (cK m).length) ((m.P.length*m.Phases.length:Nat)+(t:Int))=at' (cd (jn m) s' (cK m).length) ((m.P.length*m.Phases.length:Nat)+(t:Int)):=by
 have he:=o.ev
 have main:t<(dJ m m.Phases.length).length->at' (cd (jn m) s (cK m).length) ((m.P.length*m.Phases.length:Nat)+(t:Int))=at' (cd (jn m) s' (cK m).length) ((m.P.length*m.Phases.length:Nat)+(t:Int)):=λhall=>by
  rcases vK _ t hall with h | ⟨j,u,hj,rfl,hu⟩
  ·have hk1:0<m.Phases.length-1:=by
    rcases Nat.eq_zero_or_pos (m.Phases.length-1) with h0 | h0
    ·rw [h0,Nat.mul_zero] at h;omega
    ·exact h0
   have hi:t / (m.Phases.length-1)<m.P.length:=Nat.div_lt_of_lt_mul (by rw [Nat.mul_comm];exact h)
   have hm:=Nat.mod_lt t hk1
   have hdm:=Nat.div_add_mod t (m.Phases.length-1)
   rw [Nat.mul_comm] at hdm
   have e:((m.P.length*m.Phases.length:Nat):Int)+(t:Int)=byv m.P.length m.Phases.length (t / (m.Phases.length-1)) (t % (m.Phases.length-1)+1):=by
    unfold byv
    rw [if_neg om]
    generalize t / (m.Phases.length-1)*(m.Phases.length-1)=z at hdm ⊢
    omega
   rw [e,zE o h128 s hi om,zE o h128 s' hi om]
   exact decide_eq_decide.2 ((hf.2 _ hi _ om).symm.trans (hf'.2 _ hi _ om))
  ·have hv:=(o.fg j hj).2
   have e:((m.P.length*m.Phases.length:Nat):Int)+(((dJ m j).length+u:Nat):Int)=mv m.P.length m.Phases.length j (fi m j) ((m.P.length+u:Nat):Int):=by
    unfold mv fi
    rw [if_neg om]
    omega
   rw [e,rU o h128 hf hj _ om,rU o h128 hf' hj _ om]
 rcases Nat.lt_or_ge t (dJ m m.Phases.length).length with h | h
 ·exact main h
 ·have h1:1<m.Phases.length:=by
   rcases Nat.lt_or_ge 1 m.Phases.length with h1 | h1
   ·exact h1
   ·exfalso
    unfold cK at ht
    rw [if_neg om] at ht
    omega
  have e:((m.P.length*m.Phases.length:Nat):Int)+(t:Int)=pW m:=by
   unfold cK at ht
   rw [if_pos h1,List.length_append,List.length_singleton] at ht
   unfold pW fi
   rw [if_pos h1]
   omega
  have e1:=zF o h128 hf
  have e2:=zF o h128 hf'
  rw [e]
  exact e1.trans e2.symm
theorem rT:(jn m).Vars.toNat=m.P.length*m.Phases.length:=by show Int.toNat ((m.P.length*m.Phases.length:Nat):Int)=_;omega
theorem Bz (o:OkM m) (h128:(cK m).length<=128) {t:Nat} (ht:t<(cK m).length) {σ σ':Asg} (h:ja m.Phases.length m.P.length σ=ja m.Phases.length m.P.length σ'):oL (jn m) t σ=oL (jn m) t σ':=by
 unfold oL
 rw [rT]
 have hf':=uY (m:=m) (σ:=σ')
 rw [<-h] at hf'
 exact Cs o h128 uY hf' ht
theorem FU (o:OkM m) (h128:(cK m).length<=128) {σ:Asg}:fF (jn m) σ=decide (bF m (ja m.Phases.length m.P.length σ)<m.Phases.length):=by
 unfold fF
 rw [rT]
 exact zF o h128 uY
def e8 (m:GMission):Rat:=((hsL m.Phases.length m.P.length).map λh=>wM m h m.P.length*b2q (decide (bF m h<m.Phases.length))).sum
theorem FW (o:OkM m) (h128:(cK m).length<=128):exF (pA m) (jn m)=e8 m:=by
 unfold exF e8
 rw [rT,nN _ (g':=λτ=>(λh=>b2q (decide (bF m h<m.Phases.length))) (ja m.Phases.length m.P.length τ)) λτ=>by rw [FU o h128]]
 exact Dr m.P.length (λh=>b2q (decide (bF m h<m.Phases.length))) _
theorem xa (o:OkM m) {i k:Nat} (hk:k<m.Phases.length):∀n,n<=m.P.length->i<n->at' (pn m n) ((i*m.Phases.length+k:Nat):Int)=at' (at' m.P (i:Int)) (k:Int)
 | 0,_,h=>absurd h om
 | n+1,hn,h=>by
  have hl:=o.unfP_len n om
  rw [pn]
  rcases Nat.lt_or_ge i n with h1 | h1
  ·have hx:=nM (K:=m.Phases.length) h1
   rw [eA om om]
   exact xa o hk n om h1
  ·obtain rfl:i=n:=om
   rw [<-hl,kN]
theorem FX (o:OkM m):PL (pn m m.P.length) (pA m) (m.P.length*m.Phases.length):=by
 have hk0:=o.k0
 have split:∀v,v<m.P.length*m.Phases.length->v / m.Phases.length<m.P.length/\v % m.Phases.length<m.Phases.length/\v=v / m.Phases.length*m.Phases.length+v % m.Phases.length:=λv hv=>
  ⟨Nat.div_lt_of_lt_mul (by rw [Nat.mul_comm];exact hv),Nat.mod_lt _ hk0,by have:=Nat.div_add_mod v m.Phases.length;rw [Nat.mul_comm] at this;omega⟩
 refine ⟨o.unfP_len _ (Nat.le_refl _),λv hv=>?_,λv hv=>?_⟩
 ·obtain ⟨h1,h2,h3⟩:=split v hv
  have e:at' (pn m m.P.length) (v:Int)=at' (at' m.P ((v / m.Phases.length:Nat):Int)) ((v % m.Phases.length:Nat):Int):=by
   have:=xa o h2 m.P.length (Nat.le_refl _) h1
   rw [<-h3] at this
   exact this
  rw [e]
  exact o.pRp h1 h2
 ·obtain ⟨h1,h2,h3⟩:=split v hv
  have hp:=o.prob _ h1 _ h2
  unfold gb at hp
  simp only [Bool.and_eq_true,decide_eq_true_eq] at hp
  exact hp.2
theorem Ct (o:OkM m) {v:Nat} (hv:v<m.P.length*m.Phases.length):gb (at' (pn m m.P.length) (v:Int))=true:=by
 have hk0:=o.k0
 have h1:v / m.Phases.length<m.P.length:=Nat.div_lt_of_lt_mul (by rw [Nat.mul_comm];exact hv)
 have h2:=Nat.mod_lt v hk0
 have h3:v=v / m.Phases.length*m.Phases.length+v % m.Phases.length:=by have:=Nat.div_add_mod v m.Phases.length;rw [Nat.mul_comm] at this;omega
 have:=xa o h2 m.P.length (Nat.le_refl _) h1
 rw [<-h3] at this
 rw [this]
 exact o.prob _ h1 _ h2
theorem tR (o:OkM m) (h128:(cK m).length<=128):rng (jn m).Top:=by
 have g:=zG o h128
 have:=g.top0;have:=g.top;have:=g.v24;have:=g.n128
 unfold rng;omega
theorem Ad:∀K,K<7->∀n,n<25->(K+1)^n<=300->n*K*(K+1)^n<=4096:=by decide +kernel
theorem BE (o:OkM m) (h128:(cK m).length<=128) (h300:(m.Phases.length+1)^m.P.length<=300) {ord:List Int} (hl:(ord.length:Int)=(jn m).Vars) {t:Nat} (ht:t<(cK m).length):pm ord (oL (jn m) t):=by
 refine .fin (c:=(m.Phases.length+1)^m.P.length) (.his λσ σ' h=>Bz o h128 ht h) ?_
 have h6:=o.k6
 have h24:=o.p24
 have e:ord.length=m.P.length*m.Phases.length:=by have:=rT (m:=m);omega
 rw [e]
 exact Ad _ om _ om h300
theorem tZ {Q:GRat->Option Int->Prop} (w:WrM m) (hf:FrM m) (h1:dk m≠0->Q ⟨false,[],[]⟩ (some (dk m))) (h4:dk m=0->128<(cK m).length->Q ⟨false,[],[]⟩ (some 4))
  (hS:dk m=0->(cK m).length<=128->(m.Phases.length+1)^m.P.length<=300\/Q ⟨false,[],[]⟩ (some 4)) (h2:dk m=0->(cK m).length<=128->Rp 4000 (aY (e8 m)) (e8 m)->Q (aY (e8 m)) none):dX m Q:=by
 refine tC w hf (λhe=>bi (λ_=>h1 he) (λhc=>by cases hc)) (λhe hl=>bi (λ_=>h4 he hl) (λhc=>by cases hc)) (λhe hl=>bi (λhc=>by cases hc) (λ_=>?_))
 have o:=okM w hf he
 have hQ:=h2 he hl
 rw [<-FW o hl] at hQ
 have g:=zG o hl
 have hb:∀i:Nat,i<(jn m).Vars.toNat->gb (at' (pn m m.P.length) (i:Int))=true:=λi hi=>Ct o (by rw [rT] at hi;exact hi)
 have hp:PL (pn m m.P.length) (pA m) (jn m).Vars.toNat:=by rw [rT];exact FX o
 rcases hS he hl with h300 | h300
 ·exact FC g (tR o hl) hp hb (λord hO hlo Q' _ hQ'=>oc (tR o hl) (λhne=>absurd (oU.2 ⟨g,hO,hlo⟩) hne) (λ_=>.inl λi hi=>BE o hl h300 hlo hi) λ_=>hQ') hQ
 ·exact FC g (tR o hl) hp hb (λord hO hlo Q' h4' hQ'=>oc (tR o hl) (λhne=>absurd (oU.2 ⟨g,hO,hlo⟩) hne) (λ_=>.inr (h4' h300)) λ_=>hQ') hQ
end
end Go.Gg
namespace Go.Gg
def rs (f:Nat->Rat) (n:Nat):Rat:=((List.range n).map f).sum
theorem ga {f:Nat->Rat} {n:Nat}:rs f (n+1)=rs f n+f n:=by
 unfold rs
 rw [List.range_succ,List.map_append,List.sum_append]
 simp only [List.map_cons,List.map_nil,List.sum_cons,List.sum_nil]
 grind
theorem l9 {f:Nat->Rat}:rs f 0=0:=rfl
theorem CO {f:Nat->Rat} {a:Nat}:∀b,rs f (a+b)=rs f a+rs (λy=>f (a+y)) b
 | 0=>by rw [Nat.add_zero,l9];grind
 | b+1=>by rw [<-Nat.add_assoc,ga,CO b,ga];grind
theorem CN {f:Nat->Rat} {b:Nat}:∀a,rs f (a*b)=rs (λj=>rs (λy=>f (j*b+y)) b) a
 | 0=>by rw [Nat.zero_mul];rfl
 | a+1=>by rw [Nat.succ_mul,CO,CN a,ga]
theorem uk {f g:Nat->Rat}:∀n,(∀i,i<n->f i=g i)->rs f n=rs g n
 | 0,_=>rfl
 | n+1,h=>by rw [ga,ga,uk n λi hi=>h i om,h n om]
theorem xi {α:Type} {f:Nat->α->Rat} {l:List α}:∀n,rs (λj=>(l.map (f j)).sum) n=(l.map λx=>rs (λj=>f j x) n).sum
 | 0=>by
  induction l with
  | nil=>rfl
  | cons x l ih=>simp only [List.map_cons,List.sum_cons];rw [<-ih,l9,l9,l9];grind
 | n+1=>by
  rw [ga,xi n]
  induction l with
  | nil=>simp only [List.map_nil,List.sum_nil];grind
  | cons x l ih=>
   simp only [List.map_cons,List.sum_cons]
   rw [ga,<-ih];grind
def dig (K n x:Nat):List Int:=(List.range n).map λi=>((x / (K+1)^i % (K+1):Nat):Int)
theorem rE {K n x:Nat}:(dig K n x).length=n:=by simp [dig]
theorem Dx {K n x i:Nat} (h:i<n):at' (dig K n x) (i:Int)=((x / (K+1)^i % (K+1):Nat):Int):=cy h
theorem Dw {K n j y:Nat} (hj:j<=K) (hy:y<(K+1)^n):dig K (n+1) (j*(K+1)^n+y)=dig K n y++[(j:Int)]:=by
 unfold dig
 rw [List.range_succ,List.map_append]
 congr 1
 ·refine List.map_congr_left λi hi=>?_
  have hi:=List.mem_range.1 hi
  have e:j*(K+1)^n+y=(K+1)^i*((K+1)*(j*(K+1)^(n-i-1)))+y:=by
   rw [show n=i+(1+(n-i-1)) by omega,Nat.pow_add,Nat.pow_add,Nat.pow_one,show i+(1+(n-i-1))-i-1=n-i-1 by omega]
   congr 1
   rw [Nat.mul_left_comm,Nat.mul_left_comm j]
  rw [e,Nat.mul_add_div (Nat.pow_pos om),Nat.mul_add_mod]
 ·rw [List.map_cons,List.map_nil,Nat.mul_comm,Nat.mul_add_div (Nat.pow_pos om),Nat.div_eq_of_lt hy,Nat.add_zero,Nat.mod_eq_of_lt om]
theorem Bm {K:Nat}:∀n (g:List Int->Rat),rs (λx=>g (dig K n x)) ((K+1)^n)=((hsL K n).map g).sum
 | 0,g=>by simp [rs,hsL,dig]
 | n+1,g=>by
  rw [Nat.pow_succ,Nat.mul_comm,CN]
  rw [uk (g:=λj=>((hsL K n).map λh=>g (h++[(j:Int)])).sum) (K+1) λj hj=>?_]
  ·rw [xi,hsL,ub (c:=λh=>rs (λj=>g (h++[(j:Int)])) (K+1)) _ λh _=>?_]
   rw [List.map_map];rfl
  ·rw [<-Bm n]
   exact uk _ λy hy=>by rw [Dw om hy]
section
variable {m:GMission}
theorem Gy {x:Nat}:OkH m (dig m.Phases.length m.P.length x):=by
 refine ⟨rE,λi hi=>?_⟩
 rw [rE] at hi
 rw [Dx hi]
 have:=Nat.mod_lt (x / (m.Phases.length+1)^i) (show 0<m.Phases.length+1 by omega)
 omega
def eT (m:GMission) (j:Nat) (h:List Int):Rat:=wM m h m.P.length*b2q (decide (bF m h=j))
def fx (m:GMission) (j:Nat):Rat:=((hsL m.Phases.length m.P.length).map (eT m j)).sum
def nF (K:Nat) (S:Nat->Rat):List GRat:=(List.range K).map λj=>aY (S j)
theorem ie {K:Nat} {S:Nat->Rat}:(nF K S).length=K:=by simp [nF]
theorem o_ {K j:Nat} {S:Nat->Rat} (h:j<K):at' (nF K S) (j:Int)=aY (S j):=cy h
theorem wx {K:Nat}:bp ((K:Nat):Int) (⟨false,[],[]⟩:GRat)=nF K (λ_=>0):=by
 refine rC (by rw [ie];simp [bp]) λi hi=>?_
 have hi:i<K:=by simpa [bp] using hi
 rw [o_ hi,zJ om]
 simp [aY]
theorem qa {K:Nat} {S S':Nat->Rat} (h:∀a,a<K->S a=S' a):nF K S=nF K S':=List.map_congr_left λa ha=>by rw [h a (List.mem_range.1 ha)]
theorem CZ {K j:Nat} {S S':Nat->Rat} (hj:j<K) (h:∀a,a<K->a≠j->S a=S' a):bn (nF K S) (j:Int) (aY (S' j))=nF K S':=by
 refine rC (by rw [d9,ie,ie]) λi hi=>?_
 rw [d9,ie] at hi
 rw [jk (by rw [ie];exact hj),o_ hi,o_ hi]
 split
 ·rename_i e;rw [e]
 ·rename_i e;rw [h i hi e]
theorem Gx {h:List Int}:eT m (bF m h) h=wM m h m.P.length:=by
 unfold eT
 rw [decide_eq_true rfl]
 show _*(1:Rat)=_
 grind
theorem Bk {j:Nat} {h:List Int} (hj:j≠bF m h):eT m j h=0:=by
 unfold eT
 rw [decide_eq_false (λe=>hj e.symm)]
 show _*(0:Rat)=_
 grind
def kO (m:GMission) (l:Nat->List Int) (i j:Nat):Rat:=rs (λx=>eT m j (l x)) i
structure Acc (m:GMission) (l:Nat->List Int) (i:Nat) (out:List GRat):Prop where
 eq:out=nF m.Phases.length (kO m l i)
 rp:∀j,j<m.Phases.length->Rp (64+i*100001) (aY (kO m l i j)) (kO m l i j)
theorem Acc.zero {l:Nat->List Int} {out:List GRat} (h:out=nF m.Phases.length (λ_=>0)):Acc m l 0 out:=⟨h,λj _=>by
 have:kO m l 0 j=0:=rfl
 rw [this]
 simpa [aY] using Rp.zero (k:=64) (by decide) (by decide)⟩
theorem Acc.skip {l:Nat->List Int} {i:Nat} {out:List GRat} (h:Acc m l i out) (hr:m.Phases.length<=bF m (l i)) (_hi:i<=1000):Acc m l (i+1) out:=by
 have e:∀j,j<m.Phases.length->kO m l (i+1) j=kO m l i j:=λj hj=>by
  unfold kO
  rw [ga,Bk om]
  grind
 refine ⟨h.eq.trans (qa λa ha=>(e a ha).symm),λj hj=>?_⟩
 rw [e j hj]
 exact (h.rp j hj).mono om
theorem zu {l:Nat->List Int} {i:Nat}:kO m l i (bF m (l i))+wM m (l i) m.P.length=kO m l (i+1) (bF m (l i)):=by
 unfold kO
 rw [ga,Gx]
theorem Acc.hit {l:Nat->List Int} {i:Nat} {out:List GRat} (h:Acc m l i out) (hr:bF m (l i)<m.Phases.length) (_hi:i<=1000) (hR:Rp (64+i*100001+100000+1) (aY (kO m l (i+1) (bF m (l i)))) (kO m l (i+1) (bF m (l i)))) :
  Acc m l (i+1) (bn out ((bF m (l i):Nat):Int) (aY (kO m l (i+1) (bF m (l i))))):=by
 have e:∀j,j≠bF m (l i)->kO m l (i+1) j=kO m l i j:=λj hj=>by
  unfold kO
  rw [ga,Bk hj]
  grind
 refine ⟨by rw [h.eq];exact CZ (S':=kO m l (i+1)) hr λa _ hne=>(e a hne).symm,λj hj=>?_⟩
 by_cases hje:j=bF m (l i)
 ·rw [hje];exact hR.mono om
 ·rw [e j hje];exact (h.rp j hj).mono om
theorem px {Q:List GRat->Option Int->Prop} (w:WrM m) (hf:FrM m) (h1:dk m≠0->Q [] (some (dk m))) (h4:dk m=0->4096<(m.Phases.length+1)^m.P.length->Q [] (some 4))
  (hfew:dk m=0->(m.Phases.length+1)^m.P.length<=300\/4096<(m.Phases.length+1)^m.P.length) (h2:dk m=0->(m.Phases.length+1)^m.P.length<=300->Q (nF m.Phases.length (fx m)) none):gY m Q:=by
 refine i6 w hf ?_
 rw [dI]
 refine condT (λhe=>?_) (λhe=>?_)
 ·rw [nO he];exact h1 he
 have he:=Classical.not_not.1 he
 have o:=okM w hf he
 have hp:=o.p24
 have hk6:=o.k6
 have h4:=h4 he
 have h2:=h2 he
 refine cY (n:=m.P.length) (λi (y:Int×Int)=>y=((((m.Phases.length+1)^i:Nat):Int),(i:Int))/\(m.Phases.length+1)^i<=4096) (λy=>y.2) 0 (λi y h=>by rw [h.1];simp) ⟨by simp,by simp⟩ ?_ ?_
 ·rintro i _ next hi ⟨rfl,hI⟩ hn
  have e:(((m.Phases.length+1)^i:Nat):Int)*((m.Phases.length:Int)+1)=(((m.Phases.length+1)^(i+1):Nat):Int):=by rw [Nat.pow_succ];simp
  have hb:(m.Phases.length+1)^(i+1)<=4096*7:=by rw [Nat.pow_succ];exact Nat.mul_le_mul hI om
  have hg:=uH (K:=m.Phases.length) (show i+1<=m.P.length from hi)
  refine condT (λ_=>?_) (λhc=>absurd (show (i:Int)<(m.P.length:Int) by omega) hc)
  rw [e]
  refine ⟨by unfold rng;omega,by generalize (m.Phases.length+1)^(i+1)=z at hb;unfold rng;omega,condT (λhc=>h4 om) (λhc=>⟨by unfold rng;omega,hn _ ⟨rfl,by omega⟩⟩)⟩
 rintro _ next ⟨rfl,hI⟩
 have h300:(m.Phases.length+1)^m.P.length<=300:=by rcases hfew he with h | h<;>omega
 have h2:=h2 h300
 refine condT (λhc=>absurd hc om) (λ_=>⟨⟨by omega,by omega,by omega,by omega⟩,?_⟩)
 refine cY (n:=(m.Phases.length+1)^m.P.length) (λi (y:Int×List GRat)=>y.1=(i:Int)/\Acc m (dig m.Phases.length m.P.length) i y.2) (λy=>y.1) 0 (λi y h=>by rw [h.1];simp) ⟨rfl,.zero wx⟩ ?_ ?_
 ·rintro x ⟨x1,out⟩ next2 hx ⟨hx1,hA⟩ hn2
  dsimp only at hx1 hA
  subst hx1
  have hlen:out.length=m.Phases.length:=by rw [hA.eq,ie]
  refine condT (λ_=>⟨⟨by omega,by omega,by omega,by omega⟩,?_⟩) (λhc=>absurd (show (x:Int)<(((m.Phases.length+1)^m.P.length:Nat):Int) by omega) hc)
  have ek:((m.Phases.length:Int)+1)=((m.Phases.length+1:Nat):Int):=by simp
  refine cY (n:=m.P.length) (λi (y:Int×Int×List Int)=>(y.1=((x / (m.Phases.length+1)^i:Nat):Int)/\y.2.1=(i:Int)/\y.2.2.length=m.P.length)/\∀a:Nat,a<i->at' y.2.2 (a:Int)=((x / (m.Phases.length+1)^a % (m.Phases.length+1):Nat):Int)) (λy=>y.2.1) 0 (λi y h=>by rw [h.1.2.1];simp) ⟨⟨by simp,rfl,by simp [bp]⟩,λa ha=>absurd ha om⟩ ?_ ?_
  ·rintro i ⟨number,x2,hh⟩ next3 hi ⟨⟨e1,e2,e3⟩,hI⟩ hn3
   dsimp only at e1 e2 e3 hI
   subst e1 e2
   have hle:=Nat.div_le_self x ((m.Phases.length+1)^i)
   have hle2:=Nat.div_le_self (x / (m.Phases.length+1)^i) (m.Phases.length+1)
   have ed:Int.tdiv ((x / (m.Phases.length+1)^i:Nat):Int) ((m.Phases.length+1:Nat):Int)=((x / (m.Phases.length+1)^(i+1):Nat):Int):=by
    rw [Nat.pow_succ,<-Nat.div_div_eq_div_mul];rfl
   have em:Int.tmod ((x / (m.Phases.length+1)^i:Nat):Int) ((m.Phases.length+1:Nat):Int)=((x / (m.Phases.length+1)^i % (m.Phases.length+1):Nat):Int):=rfl
   have hle3:x / (m.Phases.length+1)^(i+1)<=x:=Nat.div_le_self x _
   refine condT (λ_=>?_) (λhc=>absurd (show (i:Int)<((Int.toNat (m.P.length:Int)):Int) by omega) hc)
   rw [ek,ed,em]
   refine ⟨by unfold rng;omega,by omega,by unfold rng;omega,⟨by omega,by generalize x / (m.Phases.length+1)^(i+1)=z at hle3;unfold rng;omega⟩,⟨by omega,by omega⟩,by unfold rng;omega,hn3 _ ⟨⟨rfl,rfl,by dsimp only;rw [d9];exact e3⟩,λa ha=>?_⟩⟩
   dsimp only
   rw [jk om]
   split
   ·rename_i e;rw [e]
   ·exact hI a om
  ·rintro ⟨number,x2,hh⟩ next3 ⟨⟨e1,e2,e3⟩,hI⟩
   dsimp only at e1 e2 e3 hI
   subst e1 e2
   have ehh:hh=dig m.Phases.length m.P.length x:=rC (by rw [rE,e3]) λa ha=>by rw [hI a om,Dx om]
   subst ehh
   have hE:=G5 he (Gy (m:=m) (x:=x))
   have hll:(dig m.Phases.length m.P.length x).length<=9223372036854775807:=by rw [rE];omega
   refine condT (λhc=>absurd hc om) (λ_=>uI w hf hll (λhne=>absurd hE hne) λ_=>bi (λhc=>by cases hc) (λ_=>bH (λhr=>?_) (λhr=>?_)))
   ·exact ⟨by unfold rng;omega,hn2 _ ⟨rfl,hA.skip om om⟩⟩
   ·have hfl:bF m (dig m.Phases.length m.P.length x)<m.Phases.length:=by
     have:=pg (g:=λj=>FV (at' m.Phases (j:Int)) (lM (dig m.Phases.length m.P.length x) (j:Int))) m.Phases.length
     have:bF m (dig m.Phases.length m.P.length x)<=m.Phases.length:=this
     omega
    refine tB w hf hll (λhne=>absurd hE hne) λ_ hw=>bi (λhc=>by cases hc) (λ_=>⟨⟨by omega,by omega⟩,?_⟩)
    rw [rE] at hw ⊢
    have hat:at' out ((bF m (dig m.Phases.length m.P.length x):Nat):Int)=aY (kO m (dig m.Phases.length m.P.length) x (bF m (dig m.Phases.length m.P.length x))):=by rw [hA.eq,o_ hfl]
    rw [hat]
    refine DV (hA.rp _ hfl) hw (by simp only [cap];omega) λhR=>⟨⟨by omega,by omega⟩,by unfold rng;omega,hn2 _ ⟨rfl,?_⟩⟩
    rw [zu] at hR ⊢
    exact hA.hit hfl om hR
 ·rintro ⟨x1,out⟩ next2 ⟨hx1,hA⟩
  dsimp only at hx1 hA
  subst hx1
  refine condT (λhc=>absurd hc om) (λ_=>?_)
  rw [hA.eq]
  have e:nF m.Phases.length (kO m (dig m.Phases.length m.P.length) ((m.Phases.length+1)^m.P.length))=nF m.Phases.length (fx m):=qa λa _=>Bm _ _
  rw [e]
  exact h2
theorem zt {l:List (List Int)} {j:Nat}:∀i,i<=l.length->kO m (λx=>at' l (x:Int)) i j=((l.take i).map (eT m j)).sum
 | 0,_=>by simp [kO,rs]
 | i+1,hi=>by
  have:=zt (l:=l) (j:=j) i om
  unfold kO at this ⊢
  rw [ga,this,<-ju om,List.map_append,List.sum_append]
  simp only [List.map_cons,List.map_nil,List.sum_cons,List.sum_nil,Rat.add_zero]
theorem Bj (o:OkM m) (h300:(m.Phases.length+1)^m.P.length<=300) {j:Nat} (_:j<m.Phases.length):Rp 30100000 (aY (fx m j)) (fx m j):=by
 have hp:=o.p24
 have hlen:(hsL m.Phases.length m.P.length).length<=300:=by rw [rl];exact h300
 have key:∀l:List (List Int),(∀h∈l,RB 100000 (eT m j h))->RB (64+l.length*100001) ((l.map (eT m j)).sum):=λl=>by
  induction l with
  | nil=>intro _;exact nU 64 om
  | cons x l ih=>
   intro hl
   rw [List.map_cons,List.sum_cons,List.length_cons]
   exact (qq (hl x (by simp)) (ih λh hh=>hl h (by simp [hh]))).mono om
 refine .of ((key _ λh hh=>?_).mono om) (by decide)
 unfold eT
 have h1:=(Cf o (l:=h) m.P.length (Nat.le_refl _)).mono (l:=99999) om
 refine (qp h1 (l:=1) ?_).mono om
 cases (decide (bF m h=j))
 ·exact nU 1 om
 ·exact oX (n:=1) om (by decide)
theorem qE {Q:List GRat->Prop} (o:OkM m) (h300:(m.Phases.length+1)^m.P.length<=300) (hQ:Q (nF m.Phases.length (fx m))):i0 m Q:=by
 have hp:=o.p24
 have hk6:=o.k6
 have hlen:(hsL m.Phases.length m.P.length).length<=300:=by rw [rl];exact h300
 refine ⟨⟨by omega,by omega,by omega,by omega⟩,fl o.k0 ?_⟩
 rw [<-o.ev]
 refine ⟨_,zx o.k6 hp h300 rfl,?_⟩
 refine cY (n:=(hsL m.Phases.length m.P.length).length) (λi (y:Int×List GRat)=>y.1=(i:Int)/\Acc m (λx=>at' (hsL m.Phases.length m.P.length) (x:Int)) i y.2) (λy=>y.1) 0 (λi y h=>by rw [h.1];simp) ⟨rfl,.zero wx⟩ ?_ ?_
 ·rintro x ⟨x1,out⟩ next2 hx ⟨hx1,hA⟩ hn2
  dsimp only at hx1 hA
  subst hx1
  have hout:out.length=m.Phases.length:=by rw [hA.eq,ie]
  have hme:=tU m.P.length _ (Fv hx)
  have hh:OkH m (at' (hsL m.Phases.length m.P.length) (x:Int)):=⟨hme.1,λa ha=>hme.2 a om⟩
  refine condT (λ_=>⟨⟨by omega,by omega⟩,_,v6 o hh rfl,condT (λhr=>⟨⟨by omega,by omega⟩,⟨by omega,by omega⟩,?_⟩) (λhr=>⟨by unfold rng;omega,hn2 _ ⟨rfl,hA.skip om om⟩⟩)⟩) (λhc=>absurd (show (x:Int)<((hsL m.Phases.length m.P.length).length:Int) by omega) hc)
  have hfl:bF m (at' (hsL m.Phases.length m.P.length) (x:Int))<m.Phases.length:=om
  have hp2:=(Cf o (l:=at' (hsL m.Phases.length m.P.length) (x:Int)) m.P.length (Nat.le_refl _)).mono (l:=100000) om
  have hw:Rp 100000 (aY (wM m (at' (hsL m.Phases.length m.P.length) (x:Int)) m.P.length)) (wM m (at' (hsL m.Phases.length m.P.length) (x:Int)) m.P.length):=.of hp2 (by decide)
  refine ⟨_,un o hh (λ_=>rfl),?_⟩
  have hat:at' out ((bF m (at' (hsL m.Phases.length m.P.length) (x:Int)):Nat):Int)=aY (kO m (λx=>at' (hsL m.Phases.length m.P.length) (x:Int)) x (bF m (at' (hsL m.Phases.length m.P.length) (x:Int)))):=by rw [hA.eq,o_ hfl]
  rw [hat,hme.1]
  refine DU (hA.rp _ hfl) hw (by simp only [cap];omega) λhR=>⟨⟨by omega,by omega⟩,by unfold rng;omega,hn2 _ ⟨rfl,?_⟩⟩
  have eh:=zu (m:=m) (l:=λx=>at' (hsL m.Phases.length m.P.length) (x:Int)) (i:=x)
  rw [eh] at hR ⊢
  exact hA.hit hfl om hR
 ·rintro ⟨x1,out⟩ next2 ⟨hx1,hA⟩
  dsimp only at hx1 hA
  subst hx1
  refine condT (λhc=>absurd hc om) (λ_=>?_)
  rw [hA.eq]
  have e:nF m.Phases.length (kO m (λx=>at' (hsL m.Phases.length m.P.length) (x:Int)) (hsL m.Phases.length m.P.length).length)=nF m.Phases.length (fx m):=qa λa _=>by rw [zt _ (Nat.le_refl _),List.take_length];rfl
  rw [e]
  exact hQ
end
end Go.Gg
namespace Go.Gg
section
variable {m:GMission}
theorem mo {Q:Int->Prop} (o:OkM m) (h1:(m.Phases.length+1)^m.P.length<=4096->Q (((m.Phases.length+1)^m.P.length:Nat):Int)) (h2:4096<(m.Phases.length+1)^m.P.length->∀x:Int,4096<x->Q x):eX m Q:=by
 have hp:=o.p24
 have hk6:=o.k6
 have ev:=o.ev
 refine cY (n:=m.P.length) (λi (y:Int×Int)=>y=((((m.Phases.length+1)^i:Nat):Int),(i:Int))/\(m.Phases.length+1)^i<=4096*7) (λy=>y.2) 0 (λi y h=>by rw [h.1];simp) ⟨by simp,by simp⟩ ?_ ?_
 ·rintro i _ next hi ⟨rfl,hI⟩ hn
  have e:(((m.Phases.length+1)^i:Nat):Int)*((m.Phases.length:Int)+1)=(((m.Phases.length+1)^(i+1):Nat):Int):=by rw [Nat.pow_succ];simp
  have hg:=uH (K:=m.Phases.length) (show i<=m.P.length by omega)
  refine gt o.k0 (condT (λ_=>condT (λhc=>?_) (λhc=>h2 om _ om)) (λhc=>absurd (show (i:Int)<evt m by omega) hc))
  have hb:(m.Phases.length+1)^(i+1)<=4096*7:=by rw [Nat.pow_succ];exact Nat.mul_le_mul om om
  rw [e]
  exact ⟨by unfold rng;omega,by generalize (m.Phases.length+1)^(i+1)=z at hb;unfold rng;omega,by unfold rng;omega,hn _ ⟨rfl,hb⟩⟩
 ·rintro _ next ⟨rfl,hI⟩
  refine gt o.k0 (condT (λhc=>absurd hc om) (λ_=>?_))
  rcases Nat.lt_or_ge 4096 ((m.Phases.length+1)^m.P.length) with h | h
  ·exact h2 h _ om
  ·exact h1 h
theorem wj {Q:Bool->Prop} (w:WrM m) (h:∀b,(b=false->FrM m/\(dk m=0->(m.Phases.length+1)^m.P.length<=300\/4096<(m.Phases.length+1)^m.P.length))->Q b):jP m Q:=by
 have ht:Q true:=h true λhh=>by cases hh
 refine condT (λ_=>ht) (λ_=>condT (λ_=>ht) (λhp=>?_))
 refine l8 (λi=>¬∀j:Nat,j<(at' m.P (i:Int)).length->Fr (at' (at' m.P (i:Int)) (j:Int))/\RB 129 (bT (at' (at' m.P (i:Int)) (j:Int)))) w.lp (λi next hi hI hnx=>?_) (λhall=>?_)
 ·refine ⟨⟨by omega,by omega⟩,condT (λ_=>ht) (λhl=>?_)⟩
  have hb:(0:Int)<=(i:Int)/\(i:Int)<(m.P.length:Int):=⟨by omega,by omega⟩
  refine cY (n:=(at' m.P (i:Int)).length) (λj y=>y=(j:Int)/\∀k:Nat,k<j->Fr (at' (at' m.P (i:Int)) (k:Int))/\RB 129 (bT (at' (at' m.P (i:Int)) (k:Int)))) (λy=>y) 0 (λj y h=>by rw [h.1,Int.add_zero]) ⟨rfl,λk hk=>absurd hk om⟩ ?_ ?_
  ·rintro j _ next2 hj ⟨rfl,hI2⟩ hn2
   have hb2:(0:Int)<=(j:Int)/\(j:Int)<((at' m.P (i:Int)).length:Int):=⟨by omega,by omega⟩
   refine ⟨hb,condT (λ_=>⟨hb,hb2,condT (λ_=>ht) (λh1=>⟨hb,hb2,condT (λ_=>ht) (λh2=>⟨by unfold rng;omega,hn2 _ ⟨by omega,λk hk=>?_⟩⟩)⟩)⟩) (λhc=>absurd hb2.2 hc)⟩
   rcases Nat.lt_or_ge k j with h3 | h3
   ·exact hI2 k h3
   ·obtain rfl:k=j:=om
    obtain ⟨w1,w2⟩:=w.wd i hi k hj
    exact ⟨⟨w1,w2,by omega,by omega⟩,(Fa w1 w2 (m:=4) om om).mono om⟩
  ·rintro _ next2 ⟨rfl,hI2⟩
   exact ⟨hb,condT (λhc=>absurd hc om) (λ_=>hnx (λhh=>hh hI2))⟩
 ·have f:FrM m:=λ_ i hi=>Classical.not_not.1 (hall _ i) hi
  refine mC w f (bH (λhe=>?_) (λhe=>h false λ_=>⟨f,λhh=>absurd hh he⟩))
  have o:=okM w f he
  refine mo o (λh4=>condT (λh3=>?_) (λh3=>h false λ_=>⟨f,λ_=>.inl om⟩)) (λh4 x hx=>condT (λ_=>?_) (λh3=>absurd (show (300:Int)<x by omega) h3))
  ·exact mo o (λ_=>by rw [decide_eq_true om];exact ht) (λh5=>absurd h5 om)
  ·refine mo o (λh5=>absurd h4 om) (λ_ x hx=>?_)
   rw [decide_eq_false om]
   exact h false λ_=>⟨f,λ_=>.inr h4⟩
theorem xv {Q:Bool->Prop} (w:WrM m) (f:FrM m) (h0:dk m≠0->Q false) (h1:dk m=0->Q (decide (4096<(m.Phases.length+1)^m.P.length))):kI m Q:=by
 refine mC w f (bH (λhe=>?_) (λhe=>h0 he))
 have h1:=h1 he
 refine mo (okM w f he) (λh4=>?_) (λh4 x hx=>?_)
 ·rw [decide_eq_false om] at h1 ⊢;exact h1
 ·rw [decide_eq_true om] at h1 ⊢;exact h1
end
section
variable {r:GRat} (hv:bT r=j2)
include hv in
theorem Ft {i:Nat} (hi:i<2):tq (exM r) i 0=1 / 2/\tq (exM r) i 1=1 / 4/\tq (exM r) i 2=1 / 4:=by
 have hp:∀j,j<2->pq (exM r) i j=1 / 2:=λj hj=>by
  have:pq (exM r) i j=bT r:=by
   unfold pq
   rcases (show i=0\/i=1 by omega) with rfl | rfl<;>rcases (show j=0\/j=1 by omega) with rfl | rfl<;>rfl
  rw [this,hv]
  unfold j2
  decide +kernel
 have e2:(exM r).Phases.length=2:=rfl
 have h0:=hp 0 om
 have h1:=hp 1 om
 refine ⟨?_,?_,?_⟩
 ·unfold tq
  rw [if_pos (by rw [e2];omega),gq,h0];grind
 ·unfold tq
  rw [if_pos (by rw [e2];omega),gq,gq,h0,h1];grind
 ·unfold tq
  rw [if_neg (by rw [e2];omega),gq,gq,gq,h0,h1];grind
theorem Hk {a b:Nat} (ha:a<=2) (hb:b<=2):wM (exM r) [(a:Int),(b:Int)] 2=tq (exM r) 0 a*tq (exM r) 1 b:=by
 have h1:=w5 (m:=exM r) (h:=[(a:Int)]) (i:=1) (j:=b) rfl hb
 have h2:=w5 (m:=exM r) (h:=[]) (i:=0) (j:=a) rfl ha
 have h1':wM (exM r) [(a:Int),(b:Int)] 2=wM (exM r) [(a:Int)] 1*tq (exM r) 1 b:=h1
 have h2':wM (exM r) [(a:Int)] 1=1*tq (exM r) 0 a:=h2
 rw [h1',h2']
 grind
theorem Hm {h:List Int}:bF (exM r) h=il (λj=>FV (at' [⟨2,[⟨2,0,[0,1]⟩],2⟩,⟨2,[⟨3,0,[0,1]⟩],2⟩] (j:Int)) (lM h (j:Int))) 2:=rfl
theorem Hl:hsL 2 2=[[0,0],[0,1],[0,2],[1,0],[1,1],[1,2],[2,0],[2,1],[2,2]]:=by decide
include hv in
theorem vf {G:List Int->Rat}:((hsL 2 2).map λh=>wM (exM r) h 2*G h).sum=1 / 4*G [0,0]+1 / 8*G [0,1]+1 / 8*G [0,2]+1 / 8*G [1,0]+1 / 16*G [1,1]+1 / 16*G [1,2]+1 / 8*G [2,0]+1 / 16*G [2,1]+1 / 16*G [2,2]:=by
 obtain ⟨a0,a1,a2⟩:=Ft hv (i:=0) om
 obtain ⟨b0,b1,b2⟩:=Ft hv (i:=1) om
 have t:∀a b:Nat,a<=2->b<=2->wM (exM r) [(a:Int),(b:Int)] 2=tq (exM r) 0 a*tq (exM r) 1 b:=λa b ha hb=>Hk ha hb
 have t00:wM (exM r) [0,0] 2=_:=t 0 0 om om
 have t01:wM (exM r) [0,1] 2=_:=t 0 1 om om
 have t02:wM (exM r) [0,2] 2=_:=t 0 2 om om
 have t10:wM (exM r) [1,0] 2=_:=t 1 0 om om
 have t11:wM (exM r) [1,1] 2=_:=t 1 1 om om
 have t12:wM (exM r) [1,2] 2=_:=t 1 2 om om
 have t20:wM (exM r) [2,0] 2=_:=t 2 0 om om
 have t21:wM (exM r) [2,1] 2=_:=t 2 1 om om
 have t22:wM (exM r) [2,2] 2=_:=t 2 2 om om
 rw [Hl]
 simp only [List.map_cons,List.map_nil,List.sum_cons,List.sum_nil]
 rw [t00,t01,t02,t10,t11,t12,t20,t21,t22,a0,a1,a2,b0,b1,b2]
 grind
theorem Hn:(bF (exM r) [0,0]=0/\bF (exM r) [0,1]=1/\bF (exM r) [0,2]=1)/\(bF (exM r) [1,0]=1/\bF (exM r) [1,1]=1/\bF (exM r) [1,2]=1)/\(bF (exM r) [2,0]=1/\bF (exM r) [2,1]=1/\bF (exM r) [2,2]=2):=by
 simp only [Hm]
 decide +kernel
include hv in
theorem EQ:e8 (exM r)=((15:Int):Rat) / ((16:Int):Rat):=by
 have h:=vf hv (G:=λh=>b2q (decide (bF (exM r) h<2)))
 obtain ⟨⟨f1,f2,f3⟩,⟨f4,f5,f6⟩,f7,f8,f9⟩:=Hn (r:=r)
 rw [f1,f2,f3,f4,f5,f6,f7,f8,f9] at h
 have e:e8 (exM r)=_:=h
 rw [e]
 decide +kernel
include hv in
theorem ER:fx (exM r) 0=((1:Int):Rat) / ((4:Int):Rat)/\fx (exM r) 1=((11:Int):Rat) / ((16:Int):Rat):=by
 obtain ⟨⟨f1,f2,f3⟩,⟨f4,f5,f6⟩,f7,f8,f9⟩:=Hn (r:=r)
 constructor
 ·have h:=vf hv (G:=λh=>b2q (decide (bF (exM r) h=0)))
  rw [f1,f2,f3,f4,f5,f6,f7,f8,f9] at h
  have e:fx (exM r) 0=_:=h
  rw [e]
  decide +kernel
 ·have h:=vf hv (G:=λh=>b2q (decide (bF (exM r) h=1)))
  rw [f1,f2,f3,f4,f5,f6,f7,f8,f9] at h
  have e:fx (exM r) 1=_:=h
  rw [e]
  decide +kernel
end
theorem kH {n d:Int} {Q:GRat->Prop} (hn:rng n) (hd:rng d) (h0:d≠0) (h:Q (aY ((n:Rat) / (d:Rat)))):gU n d Q:=qH hn hd (λe=>absurd e h0) λ_=>h
theorem pO {Q:Bool->Prop} (h:Q true):jQ Q:=by
 have rg:∀n:Int,n.natAbs<64->rng n:=λn hn=>by unfold rng;omega
 have hr:Fr (aY j2):=oY rn (by decide)
 have hv:bT (aY j2)=j2:=iA _
 have hb:gb (aY j2)=true:=by
  unfold gb
  rw [wz,hv]
  unfold j2
  decide +kernel
 have ex:∀ {Q:GMission->Prop},Q (exM (aY j2))->iv Q:=λhQ=>kH (rg _ (by decide)) (rg _ (by decide)) (by decide) hQ
 have w:=Ho hr
 have f:=Hq hr hv
 have hm:=Gu hb
 have e9:((exM (aY j2)).Phases.length+1)^(exM (aY j2)).P.length=9:=rfl
 have el:(cK (exM (aY j2))).length=5:=rfl
 obtain ⟨q0,q1⟩:=ER hv
 refine ex (px w f (λhne=>absurd hm hne) (λ_ hc=>by rw [e9] at hc;omega) (λ_=>.inl (by rw [e9];omega)) λ_ _=>ex (tZ w f (λhne=>absurd hm hne) (λ_ hl=>absurd hl (by rw [el];omega)) (λ_ _=>.inl (by rw [e9];omega)) λ_ _ hR=>?_))
 refine bi (λ_=>bi (λ_=>?_) (λhh=>by cases hh)) (λhh=>by cases hh)
 refine ⟨_,kH (rg _ (by decide)) (rg _ (by decide)) (by decide) rfl,?_⟩
 rw [EQ hv] at hR ⊢
 refine ⟨_,nS hR.len.1 hR.len.2 rfl,?_⟩
 rw [decide_eq_true rfl]
 refine bi (λ_=>⟨_,kH (rg _ (by decide)) (rg _ (by decide)) (by decide) rfl,_,kH (rg _ (by decide)) (rg _ (by decide)) (by decide) rfl,?_⟩) (λhh=>by cases hh)
 have eo:nF (exM (aY j2)).Phases.length (fx (exM (aY j2)))=[aY (((1:Int):Rat) / ((4:Int):Rat)),aY (((11:Int):Rat) / ((16:Int):Rat))]:=by
  show [aY (fx (exM (aY j2)) 0),aY (fx (exM (aY j2)) 1)]=_
  rw [q0,q1]
 rw [eo]
 have b1:RB 129 (((1:Int):Rat) / ((4:Int):Rat)):=(Ao (oX (n:=1) (k:=6) om (by decide)) (oX (n:=4) (k:=6) om (by decide))).mono om
 have b2:RB 129 (((11:Int):Rat) / ((16:Int):Rat)):=(Ao (oX (n:=11) (k:=6) om (by decide)) (oX (n:=16) (k:=6) om (by decide))).mono om
 refine ⟨true,vH (by decide) (jD (Rp.of b1 (by decide)).len (Rp.of b2 (by decide)).len) rfl,h⟩
end Go.Gg
namespace Go.Gg
section
variable {m:GMission}
variable {K:Nat}
theorem vL (f:Nat->Nat) (h:∀j,f j=(at' m.Phases (j:Int)).Nodes.length):∀j,(dJ m j).length=m.P.length*(m.Phases.length-1)+((List.range j).map f).sum
 | 0=>by rw [dJ,ig];simp
 | j+1=>by
  rw [dJ,List.length_append,phN,List.length_map,vL f h j,List.range_succ,List.map_append,List.sum_append_nat,<-h j]
  simp
  omega
end
end Go.Gg
namespace Go.Gg
section
variable {m:GMission} {K:Nat}
theorem Du {h:List Int}:∀k,rs (λj=>eT m j h) k=wM m h m.P.length*b2q (decide (bF m h<k))
 | 0=>by
  rw [l9,decide_eq_false om]
  show _=_*(0:Rat)
  grind
 | k+1=>by
  rw [ga,Du k]
  unfold eT
  rcases Nat.lt_trichotomy (bF m h) k with h1 | h1 | h1
  ·rw [decide_eq_true h1,decide_eq_false (show ¬bF m h=k by omega),decide_eq_true (show bF m h<k+1 by omega)]
   show _*(1:Rat)+_*(0:Rat)=_*(1:Rat)
   grind
  ·rw [decide_eq_false (show ¬bF m h<k by omega),decide_eq_true h1,decide_eq_true (show bF m h<k+1 by omega)]
   show _*(0:Rat)+_*(1:Rat)=_*(1:Rat)
   grind
  ·rw [decide_eq_false (show ¬bF m h<k by omega),decide_eq_false (show ¬bF m h=k by omega),decide_eq_false (show ¬bF m h<k+1 by omega)]
   show _*(0:Rat)+_*(0:Rat)=_*(0:Rat)
   grind
theorem Dt {k:Nat}:rs (fx m) k=((hsL m.Phases.length m.P.length).map λh=>wM m h m.P.length*b2q (decide (bF m h<k))).sum:=by
 have:rs (fx m) k=rs (λj=>((hsL m.Phases.length m.P.length).map (eT m j)).sum) k:=rfl
 rw [this,xi]
 congr 1
 exact List.map_congr_left λh _=>Du k
theorem zi:e8 m=rs (fx m) m.Phases.length:=Dt.symm
end
end Go.Gg
namespace Go.Gg
def zR:GRat:=⟨false,[],[]⟩
def dh (m:GMission) (i:Nat):GMission:=⟨m.Phases,bn m.P (i:Int) (bp (m.Phases.length:Int) zR)⟩
theorem FN:bT zR=0:=by decide +kernel
theorem D4:gb zR=true:=by decide +kernel
section
variable {m:GMission} {i:Nat}
theorem tH:(dh m i).P.length=m.P.length:=d9
theorem oI (hi:i<m.P.length) {a:Nat}:at' (dh m i).P (a:Int)=if a=i then bp (m.Phases.length:Int) zR else at' m.P (a:Int):=jk hi
theorem uP (hi:i<m.P.length) {a:Nat} (h:a=i):(at' (dh m i).P (a:Int)).length=m.Phases.length:=by rw [oI hi,if_pos h];simp [bp]
theorem C_ (hi:i<m.P.length) {a j:Nat} (hj:j<m.Phases.length):at' (at' (dh m i).P (a:Int)) (j:Int)=if a=i then zR else at' (at' m.P (a:Int)) (j:Int):=by
 rw [oI hi]
 by_cases h:a=i
 ·rw [if_pos h,if_pos h];exact zJ om
 ·rw [if_neg h,if_neg h]
theorem Da (w:WrM m) (hi:i<m.P.length):WrM (dh m i):=by
 refine ⟨w.lf,by rw [tH];exact w.lp,λa ha=>?_,w.top,λa ha=>?_⟩
 ·rw [tH] at ha
  by_cases h:a=i
  ·rw [uP hi h];exact w.lf
  ·rw [oI hi,if_neg h];exact w.lr a ha
 ·rw [tH] at ha
  by_cases h:a=i
  ·intro j hj
   rw [uP hi h] at hj
   rw [C_ hi hj,if_pos h]
   exact ⟨(Rp.zero (k:=64) (by decide) (by decide)).1.1,(Rp.zero (k:=64) (by decide) (by decide)).1.2.1⟩
  ·rw [oI hi,if_neg h];exact w.wd a ha
theorem Db (f:FrM m) (hi:i<m.P.length):FrM (dh m i):=λa ha j hj=>by
 rw [tH] at ha
 by_cases h:a=i
 ·rw [uP hi h] at hj
  rw [C_ hi hj,if_pos h,FN]
  exact ⟨(Rp.zero (k:=64) (by decide) (by decide)).1,nU 129 om⟩
 ·rw [oI hi,if_neg h] at hj ⊢
  exact f a ha j hj
theorem zV (o:OkM m) (hi:i<m.P.length):dk (dh m i)=0:=by
 refine yZ o.k0 o.k6 (λj hj=>⟨jH.2 (o.fg j hj).1,(o.fg j hj).2⟩) ?_ (by rw [tH];exact o.ev) (λa ha=>?_)
 ·show evt m*(m.Phases.length:Int)<=24
  rw [<-o.ev]
  have h24:=o.n24
  have e:(m.P.length:Int)*(m.Phases.length:Int)=((m.P.length*m.Phases.length:Nat):Int):=by simp
  rw [e]
  omega
 ·rw [tH] at ha
  by_cases h:a=i
  ·refine ⟨uP hi h,λj hj=>?_⟩
   rw [uP hi h] at hj
   rw [C_ hi hj,if_pos h]
   exact D4
  ·rw [oI hi,if_neg h]
   refine ⟨o.row a ha,λj hj=>?_⟩
   rw [o.row a ha] at hj
   exact o.prob a ha j hj
theorem Gh:(cK (dh m i)).length=(cK m).length:=by
 have h:=vL (m:=m) (λj=>(at' m.Phases (j:Int)).Nodes.length) (λ_=>rfl) m.Phases.length
 have h':=vL (m:=dh m i) (λj=>(at' m.Phases (j:Int)).Nodes.length) (λ_=>rfl) m.Phases.length
 rw [tH] at h'
 have e:(dJ (dh m i) m.Phases.length).length=(dJ m m.Phases.length).length:=h'.trans h.symm
 unfold cK
 show (if 1<m.Phases.length then _ else _:List GNode).length=_
 split
 ·rw [List.length_append,List.length_append]
  show (dJ (dh m i) m.Phases.length).length+_=_
  rw [e];rfl
 ·exact e
theorem v5 {Q:GMission->Prop} (o:OkM m) (hi:i<m.P.length) (h:Q (dh m i)):mA m (i:Int) Q:=by
 have hp:=o.p24
 have hk6:=o.k6
 refine dq (n:=m.P.length) (λa=>((a:Int),(dh m i).P.take a)) (λy=>y.1) 0 (λa=>by simp) (by simp) (λa next ha hn=>?_) (λnext=>?_)
 ·have hP:=tH (m:=m) (i:=i)
  have ht:(dh m i).P.take a++[at' (dh m i).P (a:Int)]=(dh m i).P.take (a+1):=ju om
  have hl:((dh m i).P.take (a+1)).length<=24:=by rw [List.length_take];omega
  refine condT (λ_=>bH (λhe=>?_) (λhe=>?_)) (λhc=>absurd (show (a:Int)<(m.P.length:Int) by omega) hc)
  ·have e:bp (m.Phases.length:Int) (⟨false,[],[]⟩:GRat)=at' (dh m i).P (a:Int):=by rw [oI hi,if_pos om];rfl
   rw [e,ht]
   exact ⟨⟨by omega,by omega,by omega,by omega⟩,by omega,by unfold rng;omega,hn⟩
  ·have e:at' m.P (a:Int)=at' (dh m i).P (a:Int):=by rw [oI hi,if_neg om]
   rw [e,ht]
   exact ⟨⟨by omega,by omega⟩,by omega,by unfold rng;omega,hn⟩
 ·refine condT (λhc=>absurd hc om) (λ_=>?_)
  rw [List.take_of_length_le (by rw [tH];omega)]
  exact h
theorem pG {Q:GRat->Prop} (o:OkM m) (h300:(m.Phases.length+1)^m.P.length<=300) (hQ:Q (aY (e8 m))):jJ m Q:=by
 have hk6:=o.k6
 refine qE o h300 ?_
 refine cY (n:=m.Phases.length) (λj (y:Int×GRat)=>y=((j:Int),aY (rs (fx m) j))/\Rp (64+j*30100001) (aY (rs (fx m) j)) (rs (fx m) j)) (λy=>y.1) 0 (λj y h=>by rw [h.1];simp) ⟨by rw [l9];simp [aY],by rw [l9];simpa [aY] using Rp.zero (k:=64) (by decide) (by decide)⟩ ?_ ?_
 ·rintro j _ next hj ⟨rfl,hR⟩ hn
  have hat:at' (nF m.Phases.length (fx m)) (j:Int)=aY (fx m j):=o_ hj
  have hE:=Bj o h300 hj
  refine condT (λ_=>⟨⟨by omega,by rw [ie];omega⟩,?_⟩) (λhc=>absurd (show (j:Int)<((nF m.Phases.length (fx m)).length:Int) by rw [ie];omega) hc)
  rw [hat]
  refine DU hR hE (by simp only [cap];omega) λhS=>⟨by unfold rng;omega,?_⟩
  have e:rs (fx m) j+fx m j=rs (fx m) (j+1):=ga.symm
  rw [e] at hS ⊢
  exact hn _ ⟨rfl,hS.mono om⟩
 ·rintro _ next ⟨rfl,_⟩
  refine condT (λhc=>absurd hc (by rw [ie];omega)) (λ_=>?_)
  rw [zi] at hQ
  exact hQ
theorem E9 {j:Int} {Q:GRat->Option Int->Prop} (w:WrM m) (hf:FrM m) (h300:dk m=0->(m.Phases.length+1)^m.P.length<=300) (h1:dk m≠0->Q ⟨false,[],[]⟩ (some (dk m)))
  (h10:dk m=0->j<0\/(m.P.length:Int)<=j->Q ⟨false,[],[]⟩ (some 10)) (h4:dk m=0->∀i:Nat,j=i->i<m.P.length->128<(cK m).length->Q ⟨false,[],[]⟩ (some 4))
  (h2:dk m=0->∀i:Nat,j=i->i<m.P.length->(cK m).length<=128->Rp 4000 (aY (e8 m)) (e8 m)->Rp 4000 (aY (e8 (dh m i))) (e8 (dh m i))->Rp 8001 (aY (e8 m-e8 (dh m i))) (e8 m-e8 (dh m i))->Q (aY (e8 m-e8 (dh m i))) none):iu m j Q:=by
 refine i6 w hf ?_
 rw [dI]
 refine condT (λhe=>?_) (λhe=>?_)
 ·rw [nO he];exact h1 he
 have he:=Classical.not_not.1 he
 have o:=okM w hf he
 have hp:=o.p24
 have hk6:=o.k6
 have h10:=h10 he
 refine ⟨λy=>y=true↔j<0\/(m.P.length:Int)<=j,condT (λhc=>by simp [hc]) (λhc=>by simp [hc]),λy hy=>bi (λhb=>h10 (hy.1 hb)) (λhb=>?_)⟩
 have hj:¬(j<0\/(m.P.length:Int)<=j):=λhc=>by rw [hy.2 hc] at hb;cases hb
 obtain ⟨i,rfl⟩:∃i:Nat,j=i:=⟨j.toNat,by omega⟩
 have hi:i<m.P.length:=om
 refine tZ w hf (λhne=>absurd he hne) (λ_ hl=>bi (λ_=>h4 he i rfl hi hl) (λhc=>by cases hc)) (λ_ _=>.inl (h300 he)) (λ_ hl hF=>bi (λhc=>by cases hc) (λ_=>?_))
 have cl:b9 m.P λy=>y=m.P:=λb hb=>by
  refine bi (λh=>(hb h).symm) (λ_=>⟨by simp;omega,by simp⟩)
 refine ⟨_,cl,⟨by omega,by omega,by omega,by omega⟩,⟨by omega,by omega⟩,?_⟩
 have hm:=zV o hi
 have hu:=Gh (m:=m) (i:=i)
 refine tZ (m:=dh m i) (Da w hi) (Db hf hi) (λhne=>absurd hm hne) (λ_ hc=>absurd hc om) (λ_ _=>.inl (by rw [tH];exact h300 he)) (λ_ _ hG=>bi (λhc=>by cases hc) (λ_=>?_))
 exact CG hF hG (by simp only [cap];omega) λhS=>h2 he i rfl hi hl hF hG hS
theorem xA (o:OkM m) (h300:(m.Phases.length+1)^m.P.length<=300):Rp 190000000 (aY (e8 m)) (e8 m):=by
 have hk6:=o.k6
 have key:∀j,j<=m.Phases.length->RB (64+j*30100001) (rs (fx m) j):=λj=>by
  induction j with
  | zero=>intro _;rw [l9];exact nU _ om
  | succ j ih=>intro hj;rw [ga];exact (qq (ih om) (Bj o h300 (j:=j) om).2.2).mono om
 rw [zi]
 exact .of ((key _ (Nat.le_refl _)).mono om) (by decide)
def m_ (m:GMission):Int:=if dk m≠0 then dk m else if 128<(cK m).length then 4 else 0
def pS (m:GMission):GRat:=if m_ m=0 then aY (e8 m) else zR
def kV (m:GMission) (j:Int):Int:=if dk m≠0 then dk m else if j<0\/evt m<=j then 10 else m_ m
def ot (m:GMission) (j:Int):GRat:=if kV m j=0 then aY (e8 m-e8 (dh m j.toNat)) else zR
theorem Be (h:dk m≠0):m_ m=dk m:=if_pos h
theorem ry (h:dk m=0) (hl:128<(cK m).length):m_ m=4:=by unfold m_;rw [if_neg (λhc=>hc h),if_pos hl]
theorem rx (h:dk m=0) (hl:(cK m).length<=128):m_ m=0:=by unfold m_;rw [if_neg (λhc=>hc h),if_neg om]
theorem xW {j:Int} (h:dk m≠0):kV m j=dk m:=if_pos h
theorem ou {j:Int} (h:dk m=0) (hj:j<0\/evt m<=j):kV m j=10:=by unfold kV;rw [if_neg (λhc=>hc h),if_pos hj]
theorem qs {j:Int} (h:dk m=0) (hj:¬(j<0\/evt m<=j)):kV m j=m_ m:=by unfold kV;rw [if_neg (λhc=>hc h),if_neg hj]
theorem Fe {Q:GRat->Option Int->Prop} (w:WrM m) (hf:FrM m) (h300:dk m=0->(m.Phases.length+1)^m.P.length<=300) (h:Q (pS m) (j4 (m_ m))):dX m Q:=by
 unfold pS at h
 refine tZ w hf (λhne=>?_) (λhe hl=>?_) (λhe _=>.inl (h300 he)) (λhe hl _=>?_)
 ·rw [Be hne,if_neg hne,nO hne] at h;exact h
 ·rw [ry he hl,if_neg (by decide)] at h;exact h
 ·rw [rx he hl,if_pos rfl] at h;exact h
theorem E8 {j:Int} {Q:GRat->Option Int->Prop} (w:WrM m) (hf:FrM m) (h300:dk m=0->(m.Phases.length+1)^m.P.length<=300) (h:Q (ot m j) (j4 (kV m j))):iu m j Q:=by
 unfold ot at h
 refine E9 w hf h300 (λhne=>?_) (λhe hj=>?_) (λhe i hj hi hl=>?_) (λhe i hj hi hl _ _ _=>?_)
 ·rw [xW hne,if_neg hne,nO hne] at h;exact h
 ·have ev:=(okM w hf he).ev
  rw [ou he om,if_neg (by decide)] at h;exact h
 ·have ev:=(okM w hf he).ev
  rw [qs he om,ry he hl,if_neg (by decide)] at h;exact h
 ·have ev:=(okM w hf he).ev
  subst hj
  rw [qs he om,rx he hl,if_pos rfl] at h;exact h
end
theorem Hh {m:GMission} {N:Bool->Prop} (w:WrM m) (hN:N true) (hF:FrM m->(dk m=0->(m.Phases.length+1)^m.P.length<=300)->N false):jP m λb=>ak b (N true) (kI m λr=>N r):=by
 refine wj w λb hb=>bi (λ_=>hN) (λhb0=>?_)
 obtain ⟨f,hfew⟩:=hb hb0
 refine xv w f (λhne=>hF f λhe=>absurd he hne) (λhe=>?_)
 by_cases h4:4096<(m.Phases.length+1)^m.P.length
 ·rw [decide_eq_true h4];exact hN
 ·rw [decide_eq_false h4];exact hF f λ_=>(hfew he).resolve_right h4
end Go.Gg
namespace Go.Gg
theorem oQ {m:GMission} {j:Int} {Q:Bool->Prop} (w:WrM m) (h:Q true):j0 m j Q:=by
 refine ⟨λy=>y=false->FrM m/\(dk m=0->(m.Phases.length+1)^m.P.length<=300),?_,?_⟩
 ·exact pO (bi (λhh=>by cases hh) λ_=>Hh (N:=λy=>y=false->FrM m/\(dk m=0->(m.Phases.length+1)^m.P.length<=300)) w (λhc=>by cases hc) (λf h300 _=>⟨f,h300⟩))
 intro y hy
 refine bi (λ_=>pO h) λhf=>?_
 obtain ⟨f,h300⟩:=hy hf
 refine Fe w f h300 (E8 w f h300 (mC w f ⟨λy=>y=(m_ m,kV m j),bH (λhe=>?_) (λhne=>?_),?_⟩))
 ·have o:=okM w f he
  refine up o (λhl=>?_) (λhl=>?_)
  ·refine condT (λh1=>by rw [ou he (.inl h1),ry he hl]) (λh1=>gt o.k0 (condT (λh2=>by rw [ou he (.inr h2),ry he hl]) (λh2=>by rw [qs he om,ry he hl])))
  ·refine condT (λh1=>by rw [ou he (.inl h1),rx he om]) (λh1=>gt o.k0 (condT (λh2=>by rw [ou he (.inr h2),rx he om]) (λh2=>by rw [qs he om,rx he om])))
 ·rw [Be hne,xW hne]
 rintro _ rfl
 have hE0:m_ m=0->dk m=0:=λh0=>by
  unfold m_ at h0
  split at h0
  ·rename_i hc;exact absurd h0 hc
  ·rename_i hc;exact Classical.not_not.1 hc
 have hW0:kV m j=0->m_ m=0/\∃i:Nat,j=i/\(i:Int)<evt m:=λh0=>by
  unfold kV at h0
  split at h0
  ·rename_i hc;exact absurd h0 hc
  ·split at h0
   ·cases h0
   ·exact ⟨h0,j.toNat,by omega,by omega⟩
 refine vI (e_ (λhc=>absurd rfl hc) λ_=>vI (e_ (λhc=>absurd rfl hc) λ_=>⟨λy=>y=pS m,bH (λh0=>?_) (λh0=>?_),?_⟩))
 ·exact pG (okM w f (hE0 h0)) (h300 (hE0 h0)) (by unfold pS;rw [if_pos h0])
 ·unfold pS;rw [if_neg h0];rfl
 rintro _ rfl
 have hS:∀i:Nat,j=i->(i:Int)<evt m->kV m j=0->i<m.P.length/\Rp 190000000 (aY (e8 m)) (e8 m)/\Rp 190000000 (aY (e8 (dh m i))) (e8 (dh m i)):=λi hj hi h0=>by
  have he:=hE0 (hW0 h0).1
  have o:=okM w f he
  have hi:i<m.P.length:=by have:=o.ev;omega
  exact ⟨hi,xA o (h300 he),xA (okM (Da w hi) (Db f hi) (zV o hi)) (by rw [tH];exact h300 he)⟩
 refine ⟨λy=>y=ot m j,bH (λh0=>?_) (λh0=>?_),?_⟩
 ·obtain ⟨h1,i,rfl,hi⟩:=hW0 h0
  obtain ⟨hi,hR,hR'⟩:=hS i rfl hi h0
  have he:=hE0 h1
  have o:=okM w f he
  have e:pS m=aY (e8 m):=by unfold pS;rw [if_pos h1]
  refine ⟨_,v5 o hi rfl,_,pG (okM (Da w hi) (Db f hi) (zV o hi)) (by rw [tH];exact h300 he) rfl,?_⟩
  rw [e]
  refine CE hR hR' (by simp only [cap];omega) λ_=>?_
  unfold ot
  rw [if_pos h0]
  rfl
 ·unfold ot;rw [if_neg h0];rfl
 rintro _ rfl
 have z1:zR.Num.length<=1099511627776/\zR.Den.length<=1099511627776:=by unfold zR;simp
 have l1:(pS m).Num.length<=1099511627776/\(pS m).Den.length<=1099511627776:=by
  unfold pS
  split
  ·rename_i h0;exact (xA (okM w f (hE0 h0)) (h300 (hE0 h0))).len
  ·exact z1
 have l2:(ot m j).Num.length<=1099511627776/\(ot m j).Den.length<=1099511627776:=by
  unfold ot
  split
  ·rename_i h0
   obtain ⟨_,i,rfl,hi⟩:=hW0 h0
   obtain ⟨_,hR,hR'⟩:=hS i rfl hi h0
   exact (Rp.of (qo hR.2.2 hR'.2.2) (by simp only [cap];omega)).len
  ·exact z1
 refine nS l1.1 l1.2 ?_
 rw [decide_eq_true rfl]
 refine bi (λ_=>nS l2.1 l2.2 ?_) (λhc=>by cases hc)
 rw [decide_eq_true rfl]
 exact h
end Go.Gg
