/- Tables of nodes: the program's functions that make nodes and choose. Conditions: none. -/
import Derived.Test.YtnjgdkfhgmebjaaGreatMa
import Derived.Test.YtnjgdkfhgmebjaaGreatWa
namespace Go.Gg
structure TS (o place:List Int) (nodes:List GDNode) (unique memo:GMap Int):Prop where
 ord:Or14 o
 pl:place.length=o.length
 pl2:∀v:Nat,v<o.length->at' place (v:Int)=(dc o v:Int)
 tb:TB o.length (dc o) nodes unique memo
abbrev lvO (o:List Int) (nodes:List GDNode) (r:Int):Nat:=lvl o.length (dc o) nodes r.toNat
section
variable {o place:List Int} {nodes:List GDNode} {unique memo:GMap Int}
theorem TS.wt (h:TS o place nodes unique memo):WT o.length (dc o) nodes:=h.tb.wt
theorem TS.at (h:TS o place nodes unique memo) {r:Int} (hr:Vd nodes r) (h2:2<=r):nodes[(r-2).toNat]? = some (at' nodes (r-2))/\(0<=(at' nodes (r-2)).Var/\(at' nodes (r-2)).Var<o.length)/\(0<=(at' nodes (r-2)).Lo/\(at' nodes (r-2)).Lo<r)/\(0<=(at' nodes (r-2)).Hi/\(at' nodes (r-2)).Hi<r)/\
  lvO o nodes r=dc o (at' nodes (r-2)).Var.toNat/\lvO o nodes r<lvO o nodes (at' nodes (r-2)).Lo/\lvO o nodes r<lvO o nodes (at' nodes (r-2)).Hi:=by
 have h0:=hr.1
 have h1:=hr.2
 have hx:=C_ (N:=nodes) (i:=(r-2).toNat) om
 rw [show (((r-2).toNat:Nat):Int)=r-2 by omega] at hx
 obtain ⟨a,b,c,d,e,f⟩:=h.wt.nd _ _ hx
 have hl:lvO o nodes r=dc o (at' nodes (r-2)).Var.toNat:=by
  have:=nf (n:=o.length) (lev:=dc o) hx
  rw [show 2+(r-2).toNat=r.toNat by omega] at this
  exact this
 exact ⟨hx,a,⟨by omega,by omega⟩,⟨by omega,by omega⟩,hl,by rw [hl];exact e,by rw [hl];exact f⟩
theorem ta (h:TS o place nodes unique memo) (hb:nodes.length<=1099511627776) {r:Int} (hr:Vd nodes r) {Q:Int->Prop} (hQ:Q (lvO o nodes r:Int)):br r o place nodes unique memo Q:=by
 have h0:=hr.1
 have h1:=hr.2
 refine condT (λh2=>?_) (λh2=>?_)
 ·rw [show lvO o nodes r=o.length from io om] at hQ;exact hQ
 ·obtain ⟨_,a,_,_,e,_,_⟩:=h.at hr om
  have hp:=h.pl
  have:=h.pl2 (at' nodes (r-2)).Var.toNat om
  rw [show (((at' nodes (r-2)).Var.toNat:Nat):Int)=(at' nodes (r-2)).Var by omega] at this
  refine ⟨by unfold rng;omega,⟨by omega,by omega⟩,⟨by omega,by omega⟩,?_⟩
  rw [this,<-e]
  exact hQ
def kid (o:List Int) (nodes:List GDNode) (r:Int) (L:Nat) (b:Bool):Int:=if lvO o nodes r=L then (bif b then (at' nodes (r-2)).Hi else (at' nodes (r-2)).Lo) else r
theorem zy (h:TS o place nodes unique memo) (hb:nodes.length<=1099511627776) {r:Int} (hr:Vd nodes r) {L:Nat} (hL:L<o.length) {Q:Int->Int->Prop} (hQ:Q (kid o nodes r L false) (kid o nodes r L true)):bH r (L:Int) o place nodes unique memo Q:=by
 have h0:=hr.1
 have h1:=hr.2
 refine ta h hb hr (fl (λhc=>?_) (λhc=>?_))
 ·rw [kid,kid,if_neg om,if_neg om] at hQ;exact hQ
 ·have h2:2<=r:=by
   by_cases h2:r<2
   ·rw [show lvO o nodes r=o.length from io om] at hc;omega
   ·omega
  rw [kid,kid,if_pos om,if_pos om] at hQ
  exact ⟨by unfold rng;omega,⟨by omega,by omega⟩,hQ⟩
theorem FR (h:TS o place nodes unique memo) {r:Int} (hr:Vd nodes r) {L:Nat} (hL:L<o.length) (b:Bool):Vd nodes (kid o nodes r L b):=by
 have h0:=hr.1
 have h1:=hr.2
 unfold kid
 split
 ·rename_i hc
  have h2:2<=r:=by
   by_cases h2:r<2
   ·rw [show lvO o nodes r=o.length from io om] at hc;omega
   ·omega
  obtain ⟨_,_,c,d,_⟩:=h.at hr h2
  cases b
  ·exact ⟨c.1,by simp only [cond_false];omega⟩
  ·exact ⟨d.1,by simp only [cond_true];omega⟩
 ·exact hr
theorem Ea (h:TS o place nodes unique memo) {r:Int} (hr:Vd nodes r) {L:Nat} (hL:L<o.length) (hLr:L<=lvO o nodes r) (b:Bool):L+1<=lvO o nodes (kid o nodes r L b):=by
 have h0:=hr.1
 have h1:=hr.2
 unfold kid
 split
 ·rename_i hc
  have h2:2<=r:=by
   by_cases h2:r<2
   ·rw [show lvO o nodes r=o.length from io om] at hc;omega
   ·omega
  obtain ⟨_,_,_,_,_,f,g⟩:=h.at hr h2
  cases b
  ·simp only [cond_false];omega
  ·simp only [cond_true];omega
 ·rename_i hc;omega
theorem FSx (h:TS o place nodes unique memo) {r:Int} (hr:Vd nodes r) {v:Nat} (hv:v<o.length) (hLr:dc o v<=lvO o nodes r) (b:Bool) (σ:Asg):dn nodes (kid o nodes r (dc o v) b) σ=dn nodes r (cr σ v b):=by
 have h0:=hr.1
 have h1:=hr.2
 have hlv:=(h.ord.at_lev hv).1
 unfold kid
 split
 ·rename_i hc
  have h2:2<=r:=by
   by_cases h2:r<2
   ·rw [show lvO o nodes r=o.length from io om] at hc;omega
   ·omega
  obtain ⟨hx,a,c,d,e,_,_⟩:=h.at hr h2
  have hvv:(at' nodes (r-2)).Var.toNat=v:=h.ord.ord.lv.inj _ _ om hv om
  have:=h.wt.den_cof hx σ b
  rw [hvv,show 2+(r-2).toNat=r.toNat by omega] at this
  unfold dn
  rw [this]
  cases b<;>rfl
 ·rename_i hc
  exact (h.wt.den_set h1 (by show dc o v<lvO o nodes r;omega) σ).symm
theorem Es {a b:Int}:(a == b)=decide (a=b):=by rw [Bool.eq_iff_iff];simp
theorem Fj (h:TS o place nodes unique memo) {r:Int} (hr:Vd nodes r) {l:Nat} (hl:l<=lvl o.length (dc o) nodes r.toNat):Dep (dn nodes r) ((jb o).drop l):=
 (h.wt.dep h.ord.ord hr.2).sub λv hv=>h.ord.ord.mem.2 ⟨(h.ord.ord.mem.1 hv).1,by have:=(h.ord.ord.mem.1 hv).2;omega⟩
theorem ua (h:TS o place nodes unique memo) {r:Int} (hr:Vd nodes r) {l:Nat} (hl:l<=o.length) (hd:Dep (dn nodes r) ((jb o).drop l)):l<=lvO o nodes r:=h.wt.lvl_ge h.ord.ord hr.2 hl hd
theorem Dl (h:TS o place nodes unique memo) (hb:nodes.length+1<=1099511627776) {v lo hi:Int} (hv:0<=v/\v<o.length) (hlo:Vd nodes lo) (hhi:Vd nodes hi) (h1:dc o v.toNat<lvO o nodes lo) (h2:dc o v.toNat<lvO o nodes hi) :
  ∃nodes' unique' r,(TS o place nodes' unique' memo/\Pre nodes nodes'/\Vd nodes' r/\(∀σ,dn nodes' r σ=bif σ v.toNat then dn nodes hi σ else dn nodes lo σ)/\nodes'.length<=nodes.length+1)/\
   ∀Q:List GDNode->GMap Int->Int->Prop,Q nodes' unique' r->cC v lo hi o place nodes unique memo Q:=by
 by_cases he:lo=hi
 ·exact ⟨nodes,unique,lo,⟨h,Pre.refl _,hlo,λσ=>by rw [<-he];cases σ v.toNat<;>rfl,by omega⟩,λQ hQ=>bO (λ_=>hQ) (λhc=>absurd he hc)⟩
 cases hm:cD unique [v,lo,hi] with
 | some r=>
  obtain ⟨a,b⟩:=h.tb.make_old hm
  refine ⟨nodes,unique,r,⟨h,Pre.refl _,a,b,by omega⟩,λQ hQ=>bO (λhc=>absurd hc he) (λ_=>bg (λhc=>?_) (λ_=>?_))⟩
  ·rw [hm] at hc;cases hc
  ·rw [hm];exact hQ
 | none=>
  obtain ⟨a,b,c⟩:=h.tb.make_new hv hlo hhi he h1 h2 hm
  refine ⟨_,_,_,⟨⟨h.ord,h.pl,h.pl2,a⟩,⟨_,rfl⟩,b,c,by simp⟩,λQ hQ=>bO (λhc=>absurd hc he) (λ_=>bg (λ_=>⟨by unfold rng;omega,by rw [List.length_append,List.length_singleton];omega,hQ⟩) (λhc=>?_))⟩
  rw [hm] at hc;cases hc
theorem Dn:∀(k fu:Nat) {nodes:List GDNode} {unique memo:GMap Int} {c a b:Int},k<fu->TS o place nodes unique memo->nodes.length+2^k<=1099511627776->Vd nodes c->Vd nodes a->Vd nodes b->
  o.length<=k+lvO o nodes c->o.length<=k+lvO o nodes a->o.length<=k+lvO o nodes b->
  ∃nodes' unique' memo' r,(TS o place nodes' unique' memo'/\Pre nodes nodes'/\Vd nodes' r/\(∀σ,dn nodes' r σ=bif dn nodes c σ then dn nodes a σ else dn nodes b σ)/\nodes'.length+1<=nodes.length+2^k)/\
   ∀Q:List GDNode->GMap Int->GMap Int->Int->Prop,Q nodes' unique' memo' r->aC fu c a b o place nodes unique memo Q:=by
 intro k
 induction k with
 | zero=>
  intro fu nodes unique memo c a b hfu h hb hc ha hb' lc la lb
  obtain ⟨g,rfl⟩:∃g,fu=g+1:=⟨fu-1,by omega⟩
  have hc0:=hc.1
  have hc2:c<2:=by
   by_cases h2:c<2
   ·exact h2
   ·obtain ⟨_,x,_,_,e,_⟩:=h.at hc om
    have:=(h.ord.at_lev (v:=(at' nodes (c-2)).Var.toNat) om).1
    omega
  rcases (show c=0\/c=1 by omega) with rfl | rfl
  ·refine ⟨nodes,unique,memo,b,⟨h,Pre.refl _,hb',λσ=>by rw [dn0];rfl,by simp⟩,λQ hQ=>?_⟩
   rw [aC]
   refine ⟨λ_=>False,⟨λx=>x=decide (a=b),bO (λhh=>by cases hh) (λ_=>Es),?_⟩,λ_ hh=>hh.elim⟩
   rintro x rfl
   refine condT (λhe=>by rw [he];exact hQ) (λ_=>bO (λ_=>hQ) (λhh=>absurd rfl hh))
  ·refine ⟨nodes,unique,memo,a,⟨h,Pre.refl _,ha,λσ=>by rw [dn1];rfl,by simp⟩,λQ hQ=>?_⟩
   rw [aC]
   refine ⟨λ_=>False,⟨λx=>x=true,bO (λ_=>rfl) (λhh=>absurd rfl hh),?_⟩,λ_ hh=>hh.elim⟩
   rintro x rfl
   exact bg (λ_=>hQ) (λhh=>by cases hh)
 | succ k ih=>
  intro fu nodes unique memo c a b hfu h hb hc ha hb' lc la lb
  obtain ⟨g,rfl⟩:∃g,fu=g+1:=⟨fu-1,by omega⟩
  have hpk:0<2^k:=Nat.pow_pos om
  rw [Nat.pow_succ] at hb
  have h1:1<=2^(k+1):=Nat.pow_pos om
  have hc0:=hc.1
  by_cases q1:c=1\/a=b
  ·refine ⟨nodes,unique,memo,a,⟨h,Pre.refl _,ha,λσ=>?_,by omega⟩,λQ hQ=>?_⟩
   ·rcases q1 with rfl | rfl
    ·rw [dn1];rfl
    ·cases dn nodes c σ<;>rfl
   ·rw [aC]
    refine ⟨λ_=>False,⟨λx=>x=true,bO (λ_=>rfl) (λhh=>by simpa using q1.resolve_left hh),?_⟩,λ_ hh=>hh.elim⟩
    rintro x rfl
    exact bg (λ_=>hQ) (λhh=>by cases hh)
  by_cases q2:c=0
  ·refine ⟨nodes,unique,memo,b,⟨h,Pre.refl _,hb',λσ=>by rw [q2,dn0];rfl,by omega⟩,λQ hQ=>?_⟩
   rw [aC]
   refine ⟨λ_=>False,⟨λx=>x=false,bO (λhh=>absurd (.inl hh) q1) (λ_=>by simpa using λhh=>q1 (.inr hh)),?_⟩,λ_ hh=>hh.elim⟩
   rintro x rfl
   exact bg (λhh=>by cases hh) (λ_=>bO (λ_=>hQ) (λhh=>absurd q2 hh))
  by_cases q3:a=1/\b=0
  ·refine ⟨nodes,unique,memo,c,⟨h,Pre.refl _,hc,λσ=>by rw [q3.1,q3.2,dn0,dn1];cases dn nodes c σ<;>rfl,by omega⟩,λQ hQ=>?_⟩
   rw [aC]
   refine ⟨λ_=>False,⟨λx=>x=false,bO (λhh=>absurd (.inl hh) q1) (λ_=>by simpa using λhh=>q1 (.inr hh)),?_⟩,λ_ hh=>hh.elim⟩
   rintro x rfl
   exact bg (λhh=>by cases hh) (λ_=>bO (λhh=>absurd hh q2) (λ_=>bO (λ_=>bO (λ_=>hQ) (λhh=>absurd q3.2 hh)) (λhh=>absurd q3.1 hh)))
  have enter:∀Q:List GDNode->GMap Int->GMap Int->Int->Prop,
    ah (Option.isSome (cD memo [c,a,b]))
    (Q nodes unique memo (Option.getD (cD memo [c,a,b]) 0))
    (br c o place nodes unique memo λr=>
    br a o place nodes unique memo λr1=>
    br b o place nodes unique memo λr2=>
    bH c (min (min r r1) r2) o place nodes unique memo λr3 r4=>
    bH a (min (min r r1) r2) o place nodes unique memo λr5 r6=>
    bH b (min (min r r1) r2) o place nodes unique memo λr7 r8=>
    aC g r3 r5 r7 o place nodes unique memo λu u1 u2 lo=>
    aC g r4 r6 r8 o place u u1 u2 λu3 u4 u5 hi=>
    ((0:Int)<=(min (min r r1) r2)/\(min (min r r1) r2)<(o.length:Int))/\
    cC (at' o (min (min r r1) r2)) lo hi o place u3 u4 u5 λu6 u7 r9=>
    Q u6 u7 (mput u5 [c,a,b] r9) r9)->aC (g+1) c a b o place nodes unique memo Q:=λQ hq=>by
   rw [aC]
   refine ⟨λ_=>True,⟨λx=>x=false,bO (λhh=>absurd (.inl hh) q1) (λ_=>by simpa using λhh=>q1 (.inr hh)),?_⟩,λ_ _=>hq⟩
   rintro x rfl
   exact bg (λhh=>by cases hh) (λ_=>bO (λhh=>absurd hh q2) (λ_=>bO (λq4=>bO (λhh=>absurd ⟨q4,hh⟩ q3) (λ_=>trivial)) (λ_=>trivial)))
  cases hm:cD memo [c,a,b] with
  | some r=>
   obtain ⟨_,m2,m3⟩:=h.tb.me c a b r hm
   refine ⟨nodes,unique,memo,r,⟨h,Pre.refl _,m2,m3,by omega⟩,λQ hQ=>enter Q ?_⟩
   rw [hm]
   exact bg (λ_=>hQ) (λhh=>by cases hh)
  | none=>
   have hc2:2<=c:=om
   obtain ⟨_,cv,_,_,ce,_⟩:=h.at hc hc2
   have clv:=(h.ord.at_lev (v:=(at' nodes (c-2)).Var.toNat) om).1
   generalize hL:min (min (lvO o nodes c) (lvO o nodes a)) (lvO o nodes b)=L
   have hLn:L<o.length:=om
   have hLI:min (min (lvO o nodes c:Int) (lvO o nodes a:Int)) (lvO o nodes b:Int)=(L:Int):=om
   have hbn:nodes.length<=1099511627776:=om
   obtain ⟨v,hv⟩:∃v:Nat,at' o (L:Int)=v:=⟨(at' o (L:Int)).toNat,by have:=h.ord.rg L hLn;omega⟩
   have hvn:v<o.length:=by have:=h.ord.rg L hLn;omega
   have hvL:dc o v=L:=by have:=h.ord.lev_at hLn;rwa [hv,Int.toNat_natCast] at this
   have kv:=λ(r:Int) (hr:Vd nodes r) (b:Bool)=>FR h hr hLn b
   have kl:=λ(r:Int) (hr:Vd nodes r) (hl:L<=lvO o nodes r) (b:Bool)=>Ea h hr hLn hl b
   have kd:=λ(r:Int) (hr:Vd nodes r) (hl:L<=lvO o nodes r) (b:Bool) (σ:Asg)=>by
    have:=FSx h hr hvn (by rw [hvL];exact hl) b σ
    rwa [hvL] at this
   have lC:L<=lvO o nodes c:=om
   have lA:L<=lvO o nodes a:=om
   have lB:L<=lvO o nodes b:=om
   obtain ⟨n1,u1,m1,lo,⟨t1,p1,v1,d1,s1⟩,w1⟩:=ih g om h om (kv c hc false) (kv a ha false) (kv b hb' false) (by have:=kl c hc lC false;omega) (by have:=kl a ha lA false;omega) (by have:=kl b hb' lB false;omega)
   have lv1:∀r b,Vd nodes r->L<=lvO o nodes r->L+1<=lvO o n1 (kid o nodes r L b):=λr b hr hl=>by
    show L+1<=lvl o.length (dc o) n1 (kid o nodes r L b).toNat
    rw [Pre.lvl (kv r hr b) p1];exact kl r hr hl b
   obtain ⟨n2,u2,m2,hi,⟨t2,p2,v2,d2,s2⟩,w2⟩:=ih g om t1 om ((kv c hc true).pre p1) ((kv a ha true).pre p1) ((kv b hb' true).pre p1) (by have:=lv1 c true hc lC;omega) (by have:=lv1 a true ha lA;omega) (by have:=lv1 b true hb' lB;omega)
   have v1':=v1.pre p2
   have dlo:∀σ,dn n2 lo σ=bif dn nodes c (cr σ v false) then dn nodes a (cr σ v false) else dn nodes b (cr σ v false):=λσ=>by
    rw [fC v1 p2,d1,kd c hc lC,kd a ha lA,kd b hb' lB]
   have dhi:∀σ,dn n2 hi σ=bif dn nodes c (cr σ v true) then dn nodes a (cr σ v true) else dn nodes b (cr σ v true):=λσ=>by
    rw [d2,fC (kv c hc true) p1,fC (kv a ha true) p1,fC (kv b hb' true) p1,kd c hc lC,kd a ha lA,kd b hb' lB]
   have dep:∀(r:Int) (hr:Vd nodes r),L<=lvO o nodes r->∀(b:Bool) (σ σ':Asg),(∀w∈(jb o).drop (L+1),σ w=σ' w)->dn nodes r (cr σ v b)=dn nodes r (cr σ' v b):=λr hr hl b σ σ' hh=>by
    have:=Fj h hr hl
    have hdr:(jb o).drop L=v :: (jb o).drop (L+1):=by have:=h.ord.ord.drop hvn;rwa [hvL] at this
    rw [hdr] at this
    exact this.set σ σ' hh
   have llo:L+1<=lvO o n2 lo:=ua t2 v1' om λσ σ' hh=>by
    simp only [dlo]
    rw [dep c hc lC false σ σ' hh,dep a ha lA false σ σ' hh,dep b hb' lB false σ σ' hh]
   have lhi:L+1<=lvO o n2 hi:=ua t2 v2 om λσ σ' hh=>by
    simp only [dhi]
    rw [dep c hc lC true σ σ' hh,dep a ha lA true σ σ' hh,dep b hb' lB true σ σ' hh]
   obtain ⟨n3,u3,r,⟨t3,p3,v3,d3,s3⟩,w3⟩:=Dl t2 om (v:=(v:Int)) ⟨by omega,by omega⟩ v1' v2 (by rw [Int.toNat_natCast,hvL];omega) (by rw [Int.toNat_natCast,hvL];omega)
   have p13:=(p1.trans p2).trans p3
   have hres:∀σ,dn n3 r σ=bif dn nodes c σ then dn nodes a σ else dn nodes b σ:=λσ=>by
    rw [d3,Int.toNat_natCast]
    cases hs:σ v
    ·rw [cond_false,dlo,show cr σ v false=σ by rw [<-hs];exact sY]
    ·rw [cond_true,dhi,show cr σ v true=σ by rw [<-hs];exact sY]
   refine ⟨n3,u3,mput m2 [c,a,b] r,r,⟨⟨t3.ord,t3.pl,t3.pl2,t3.tb.memo_put (hc.pre p13) (ha.pre p13) (hb'.pre p13) v3 (λσ=>by rw [fC hc p13,fC ha p13,fC hb' p13];exact hres σ)⟩,p13,v3,hres,by rw [Nat.pow_succ];omega⟩,λQ hQ=>enter Q ?_⟩
   rw [hm]
   refine bg (λhh=>by cases hh) (λ_=>ta h hbn hc (ta h hbn ha (ta h hbn hb' ?_)))
   rw [hLI]
   refine zy h hbn hc hLn (zy h hbn ha hLn (zy h hbn hb' hLn (w1 _ (w2 _ ⟨⟨by omega,by omega⟩,?_⟩))))
   rw [hv]
   exact w3 _ hQ
end
end Go.Gg
namespace Go.Gg
section
variable {o place:List Int} {nodes:List GDNode} {unique memo:GMap Int}
structure After (o place:List Int) (nodes nodes':List GDNode) (unique' memo':GMap Int) (r:Int) (f:Asg->Bool) (c:Nat):Prop where
 ts:TS o place nodes' unique' memo'
 pre:Pre nodes nodes'
 vd:Vd nodes' r
 dn:dn nodes' r=f
 le:nodes'.length<=nodes.length+c
theorem oB (h:TS o place nodes unique memo) (hb:nodes.length+2^o.length<=1099511627776) {c a b:Int} (hc:Vd nodes c) (ha:Vd nodes a) (hb':Vd nodes b) :
  ∃nodes' unique' memo' r,After o place nodes nodes' unique' memo' r (λσ=>bif dn nodes c σ then dn nodes a σ else dn nodes b σ) (2^o.length)/\
   ∀Q:List GDNode->GMap Int->GMap Int->Int->Prop,Q nodes' unique' memo' r->∃fu,aC fu c a b o place nodes unique memo Q:=by
 obtain ⟨n1,u1,m1,r,⟨a1,a2,a3,a4,a5⟩,w⟩:=Dn o.length (o.length+1) om h hb hc ha hb' om om om
 exact ⟨n1,u1,m1,r,⟨a1,a2,a3,funext a4,by omega⟩,λQ hQ=>⟨o.length+1,w Q hQ⟩⟩
theorem GU (h:TS o place nodes unique memo) (hb:nodes.length+2^o.length<=1099511627776) {a b:Int} (ha:Vd nodes a) (hb':Vd nodes b) :
  ∃nodes' unique' memo' r,After o place nodes nodes' unique' memo' r (λσ=>dn nodes a σ && dn nodes b σ) (2^o.length)/\
   ∀Q:List GDNode->GMap Int->GMap Int->Int->Prop,Q nodes' unique' memo' r->du a b o place nodes unique memo Q:=by
 obtain ⟨n1,u1,m1,r,h1,w⟩:=oB h hb ha hb' vd0
 refine ⟨n1,u1,m1,r,⟨h1.ts,h1.pre,h1.vd,by rw [h1.dn,dn0];funext σ;cases dn nodes a σ<;>rfl,h1.le⟩,λQ hQ=>w Q hQ⟩
theorem Hm (h:TS o place nodes unique memo) (hb:nodes.length+2^o.length<=1099511627776) {a b:Int} (ha:Vd nodes a) (hb':Vd nodes b) :
  ∃nodes' unique' memo' r,After o place nodes nodes' unique' memo' r (λσ=>dn nodes a σ || dn nodes b σ) (2^o.length)/\
   ∀Q:List GDNode->GMap Int->GMap Int->Int->Prop,Q nodes' unique' memo' r->dR a b o place nodes unique memo Q:=by
 obtain ⟨n1,u1,m1,r,h1,w⟩:=oB h hb ha vd1 hb'
 refine ⟨n1,u1,m1,r,⟨h1.ts,h1.pre,h1.vd,by rw [h1.dn,dn1];funext σ;cases dn nodes a σ<;>rfl,h1.le⟩,λQ hQ=>w Q hQ⟩
theorem E7 (h:TS o place nodes unique memo) (hb:nodes.length+2^o.length<=1099511627776) {a:Int} (ha:Vd nodes a) :
  ∃nodes' unique' memo' r,After o place nodes nodes' unique' memo' r (λσ=>!dn nodes a σ) (2^o.length)/\
   ∀Q:List GDNode->GMap Int->GMap Int->Int->Prop,Q nodes' unique' memo' r->dt a o place nodes unique memo Q:=by
 obtain ⟨n1,u1,m1,r,h1,w⟩:=oB h hb ha vd0 vd1
 refine ⟨n1,u1,m1,r,⟨h1.ts,h1.pre,h1.vd,by rw [h1.dn,dn0,dn1];funext σ;cases dn nodes a σ<;>rfl,h1.le⟩,λQ hQ=>w Q hQ⟩
theorem GS (h:TS o place nodes unique memo) (hb:nodes.length+2*2^o.length<=1099511627776) {a b:Int} (ha:Vd nodes a) (hb':Vd nodes b) :
  ∃nodes' unique' memo' r,After o place nodes nodes' unique' memo' r (λσ=>dn nodes a σ != dn nodes b σ) (2*2^o.length)/\
   ∀Q:List GDNode->GMap Int->GMap Int->Int->Prop,Q nodes' unique' memo' r->dr a b o place nodes unique memo Q:=by
 obtain ⟨n1,u1,m1,r1,h1,w1⟩:=E7 h om hb'
 have:=h1.le
 obtain ⟨n2,u2,m2,r,h2,w2⟩:=oB h1.ts om (ha.pre h1.pre) h1.vd (hb'.pre h1.pre)
 have:=h2.le
 refine ⟨n2,u2,m2,r,⟨h2.ts,h1.pre.trans h2.pre,h2.vd,?_,by omega⟩,λQ hQ=>w1 _ (w2 Q hQ)⟩
 rw [h2.dn,h1.dn,fC ha h1.pre,fC hb' h1.pre]
 funext σ
 show (bif dn nodes a σ then !dn nodes b σ else dn nodes b σ)=_
 cases dn nodes a σ<;>cases dn nodes b σ<;>rfl
theorem EF (h:TS o place nodes unique memo) (hb:nodes.length+1<=1099511627776) {v:Int} (hv:0<=v/\v<o.length) :
  ∃nodes' unique' r,After o place nodes nodes' unique' memo r (λσ=>σ v.toNat) 1/\
   ∀Q:List GDNode->GMap Int->Int->Prop,Q nodes' unique' r->cV v o place nodes unique memo Q:=by
 have hl:=(h.ord.at_lev (v:=v.toNat) om).1
 obtain ⟨n1,u1,r,⟨a1,a2,a3,a4,a5⟩,w⟩:=Dl h hb hv vd0 vd1 (by show _<lvl _ _ _ 0;rw [io om];exact hl) (by show _<lvl _ _ _ 1;rw [io om];exact hl)
 refine ⟨n1,u1,r,⟨a1,a2,a3,?_,a5⟩,λQ hQ=>w Q hQ⟩
 funext σ
 rw [a4,dn0,dn1]
 cases σ v.toNat<;>rfl
theorem FO {V:Type} {m:GMap V} {k:List Int} {v:V}:(mput m k v).n<=m.n+1:=by
 unfold mput
 dsimp only
 cases (m.f k).isSome
 ·exact Nat.le_refl _
 ·exact Nat.le_succ _
theorem Bq (h:TS o place nodes unique memo) (hb:nodes.length<=1099511627776):∀(k fu:Nat) {seen:GMap Bool} {r most:Int},k<fu->Vd nodes r->o.length<=k+lvO o nodes r->
  ∃seen':GMap Bool,seen'.n+1<=seen.n+2^k/\∀Q:GMap Bool->Prop,Q seen'->aN fu r most seen o place nodes unique memo Q:=by
 intro k
 induction k with
 | zero=>
  intro fu seen r most hfu hr hk
  obtain ⟨f,rfl⟩:∃f,fu=f+1:=⟨fu-1,by omega⟩
  refine ⟨seen,by simp,λQ hQ=>?_⟩
  rw [aN]
  refine condT (λ_=>hQ) (λhc=>?_)
  obtain ⟨_,x,_,_,e,_⟩:=h.at hr om
  have:=(h.ord.at_lev (v:=(at' nodes (r-2)).Var.toNat) om).1
  omega
 | succ k ih=>
  intro fu seen r most hfu hr hk
  obtain ⟨f,rfl⟩:∃f,fu=f+1:=⟨fu-1,by omega⟩
  have hpk:0<2^k:=Nat.pow_pos om
  rw [Nat.pow_succ]
  by_cases h2:r<2
  ·refine ⟨seen,by omega,λQ hQ=>?_⟩
   rw [aN]
   exact condT (λ_=>hQ) (λhc=>absurd h2 hc)
  by_cases h3:Option.getD (cD seen [r]) false=true
  ·refine ⟨seen,by omega,λQ hQ=>?_⟩
   rw [aN]
   exact condT (λ_=>hQ) (λ_=>bg (λ_=>hQ) (λhc=>by rw [h3] at hc;cases hc))
  by_cases h4:most<((GMap.n seen:Nat):Int)
  ·refine ⟨seen,by omega,λQ hQ=>?_⟩
   rw [aN]
   exact condT (λ_=>hQ) (λ_=>bg (λ_=>hQ) (λ_=>condT (λ_=>hQ) (λhc=>absurd h4 hc)))
  obtain ⟨_,_,xl,xh,_,xlo,xhi⟩:=h.at hr om
  have hr2:=hr.2
  have hn:=FO (m:=seen) (k:=[r]) (v:=true)
  obtain ⟨s1,c1,w1⟩:=ih f (seen:=mput seen [r] true) (r:=(at' nodes (r-2)).Lo) (most:=most) om ⟨xl.1,by omega⟩ om
  obtain ⟨s2,c2,w2⟩:=ih f (seen:=s1) (r:=(at' nodes (r-2)).Hi) (most:=most) om ⟨xh.1,by omega⟩ om
  refine ⟨s2,by omega,λQ hQ=>?_⟩
  rw [aN]
  exact condT (λhc=>absurd hc h2) (λ_=>bg (λhc=>absurd hc h3) (λ_=>condT (λhc=>absurd hc h4) (λ_=>⟨by unfold rng;omega,⟨by omega,by omega⟩,s1,w1 _ rfl,by unfold rng;omega,⟨by omega,by omega⟩,s2,w2 _ rfl,hQ⟩)))
theorem zA (h:TS o place nodes unique memo) (hb:nodes.length<=1099511627776) {root:Int} {oo:List Int}:∀(k fu:Nat) {refs:GMap Int} {M:List GDNode} {r:Int},k<fu->Vd nodes r->o.length<=k+lvO o nodes r->EX o.length (dc o) nodes refs M->M.length+2^k<=1099511627776->
  ∃(refs':GMap Int) (M':List GDNode) (x:Int),(EX o.length (dc o) nodes refs' M'/\0<=x/\dd (jb o) (dn nodes r) M=(M',x.toNat)/\M'.length+1<=M.length+2^k/\∀q:Int,r<q->cD refs' [q]=cD refs [q])/\
   ∀Q:GMap Int->List GDNode->Int->Prop,Q refs' M' x->bm fu r root refs oo M o place nodes unique memo Q:=by
 intro k
 induction k with
 | zero=>
  intro fu refs M r hfu hr hk hE hB
  obtain ⟨f,rfl⟩:∃f,fu=f+1:=⟨fu-1,by omega⟩
  have h0:=hr.1
  have h2:r<2:=by
   by_cases h2:r<2
   ·exact h2
   ·obtain ⟨_,x,_,_,e,_⟩:=h.at hr om
    have:=(h.ord.at_lev (v:=(at' nodes (r-2)).Var.toNat) om).1
    omega
  have hm:cD refs [r]=some r:=by
   rcases (show r=0\/r=1 by omega) with rfl | rfl
   ·exact hE.c0
   ·exact hE.c1
  refine ⟨refs,M,r,⟨hE,h0,hE.old h.ord.ord h.wt hm,by simp,λ_ _=>rfl⟩,λQ hQ=>?_⟩
  rw [bm,hm]
  exact bg (λ_=>hQ) (λhc=>by cases hc)
 | succ k ih=>
  intro fu refs M r hfu hr hk hE hB
  obtain ⟨f,rfl⟩:∃f,fu=f+1:=⟨fu-1,by omega⟩
  have hpk:0<2^k:=Nat.pow_pos om
  rw [Nat.pow_succ] at hB ⊢
  cases hm:cD refs [r] with
  | some x=>
   refine ⟨refs,M,x,⟨hE,(hE.sound r x hm).2.2.1,hE.old h.ord.ord h.wt hm,by omega,λ_ _=>rfl⟩,λQ hQ=>?_⟩
   rw [bm,hm]
   exact bg (λ_=>hQ) (λhc=>by cases hc)
  | none=>
   have h0:=hr.1
   have h2:2<=r:=by
    by_cases h2:r<2
    ·rcases (show r=0\/r=1 by omega) with rfl | rfl
     ·rw [hE.c0] at hm;cases hm
     ·rw [hE.c1] at hm;cases hm
    ·omega
   obtain ⟨hx,_,xl,xh,_,xlo,xhi⟩:=h.at hr h2
   have hr2:=hr.2
   obtain ⟨r1,M1,y1,⟨E1,z1,e1,c1,k1⟩,w1⟩:=ih f (refs:=refs) (M:=M) (r:=(at' nodes (r-2)).Lo) om ⟨xl.1,by omega⟩ om hE om
   obtain ⟨r2,M2,y2,⟨E2,z2,e2,c2,k2⟩,w2⟩:=ih f (refs:=r1) (M:=M1) (r:=(at' nodes (r-2)).Hi) om ⟨xh.1,by omega⟩ om E1 om
   have hno:cD r2 [r]=none:=by rw [k2 r om,k1 r om];exact hm
   have er:r=((2+(r-2).toNat:Nat):Int):=om
   have hN:=EX.node h.ord.ord h.wt hE.wt E2 hx z1 z2 e1 e2 (by rw [<-er];exact hno)
   rw [<-er] at hN
   obtain ⟨ha,hE3⟩:=hN
   have hlen:(M2++[(⟨(at' nodes (r-2)).Var,y1,y2⟩:GDNode)]).length=M2.length+1:=by rw [List.length_append];rfl
   refine ⟨_,_,((2+M2.length:Nat):Int),⟨hE3,by omega,?_,by rw [hlen];omega,λq hq=>?_⟩,λQ hQ=>?_⟩
   ·rw [show dn nodes r=λσ=>den nodes σ (2+(r-2).toNat) from ?_,ha,Int.toNat_natCast]
    funext σ
    unfold dn
    congr 1
    omega
   ·rw [ee,if_neg om,k2 q om,k1 q om]
   ·rw [bm,hm]
    refine bg (λhc=>by cases hc) (λ_=>⟨by unfold rng;omega,⟨by omega,by omega⟩,w1 _ (w2 _ ⟨by rw [hlen];omega,by rw [hlen];unfold rng;omega,?_⟩)⟩)
    rw [hlen,ee,if_pos rfl,show (1+((M2.length+1:Nat):Int))=((2+M2.length:Nat):Int) by omega]
    exact hQ
theorem Dm (h:TS o place nodes unique memo) (hb:nodes.length<=1099511627776) {r:Int} (hr:Vd nodes r) {Q:GDiagram->Prop} (hQ:Q (ux o (dn nodes r))):cU r o place nodes unique memo Q:=by
 have hn:=h.ord.le
 have hp:=pP hn
 obtain ⟨refs,M,x,⟨_,z,e,_,_⟩,w⟩:=zA h hb (root:=0) (oo:=o) o.length (o.length+1) (refs:=mput (mput (iF:GMap Int) [0] 0) [1] 1) (M:=[]) (r:=r) om hr om EX.start (by simp;omega)
 refine ⟨by omega,o.length+1,w _ ?_⟩
 have:(⟨o,M,x⟩:GDiagram)=ux o (dn nodes r):=by
  unfold ux
  rw [e]
  simp only [GDiagram.mk.injEq,true_and]
  omega
 rw [this]
 exact hQ
end
end Go.Gg
namespace Go.Gg
theorem oH {α:Type} {n:Int} {x:α} (h:0<=n):((bu n x).length:Int)=n:=by simp [bu];omega
theorem yU {α:Type} [Inhabited α] {n:Int} {x:α} {i:Nat} (h:(i:Int)<n):at' (bu n x) (i:Int)=x:=by
 simp [at',bu,List.getD_eq_getElem?_getD,show i<n.toNat by omega]
instance:DecidableEq GDiagram:=λa b=>decidable_of_iff (a.Order=b.Order/\a.Nodes=b.Nodes/\a.Root=b.Root) (by cases a;cases b;simp)
theorem GT {o:List Int} {Q:List Int->List Int->GMap Int->GMap Int->Prop} (h:Or14 o) (hQ:∀place,TS o place [] iF iF->Q o place iF iF):i4 o Q:=by
 have hle:=h.le
 refine ⟨by omega,⟨by omega,by omega,by omega,by omega⟩,?_⟩
 refine dO (n:=o.length) (λi y=>y.1=(i:Int)/\y.2.length=o.length/\∀v:Nat,v<o.length->dc o v<i->at' y.2 (v:Int)=(dc o v:Int)) (λy=>y.1) 0 (λi y hy=>by rw [hy.1];omega) ⟨rfl,by simp [bu],λv hv hl=>absurd hl om⟩ ?_ ?_
 ·rintro i ⟨x,out⟩ next hi ⟨hx,hl,hI⟩ hn
  dsimp only at hx hl hI
  subst hx
  have hr:=h.rg i hi
  obtain ⟨v,hv⟩:∃v:Nat,at' o (i:Int)=v:=⟨(at' o (i:Int)).toNat,by omega⟩
  have hlv:=h.lev_at hi
  rw [hv,Int.toNat_natCast] at hlv
  refine condT (λ_=>⟨⟨by omega,by omega⟩,by omega,by unfold rng;omega,hn _ ⟨by dsimp only;omega,by dsimp only;rw [dJ];exact hl,λu hu hul=>?_⟩⟩) (λhc=>absurd (show (i:Int)<o.length by omega) hc)
  dsimp only
  rw [hv,gy om]
  split
  ·rename_i he;subst he;rw [hlv]
  ·rename_i he
   refine hI u hu ?_
   rcases Nat.lt_or_ge (dc o u) i with h5 | h5
   ·exact h5
   ·have h6:=(h.at_lev hu).2
    rw [show dc o u=i by omega,hv] at h6
    omega
 ·rintro ⟨x,out⟩ next ⟨hx,hl,hI⟩
  dsimp only at hx hl hI
  subst hx
  exact condT (λhc=>absurd hc om) (λ_=>hQ out ⟨h,hl,λv hv=>hI v hv (h.at_lev hv).1,TB.nil⟩)
def dF (d:GDiagram):Asg->Bool:=dn d.Nodes d.Root
structure Opn (l:List GDiagram) (place:List Int) (nodes:List GDNode) (unique memo:GMap Int) (refs:List Int):Prop where
 ts:TS (at' l 0).Order place nodes unique memo
 len:refs.length=l.length
 le:nodes.length<=4096*l.length
 ref:∀i:Nat,i<l.length->Vd nodes (at' refs (i:Int))/\dn nodes (at' refs (i:Int))=dF (at' l (i:Int))
end Go.Gg
namespace Go.Gg
def noD:GDiagram:=⟨[],[],0⟩
section
variable {o place:List Int} {nodes:List GDNode} {unique memo:GMap Int}
end
theorem After.mono {o place:List Int} {nodes nodes':List GDNode} {unique' memo':GMap Int} {r:Int} {f:Asg->Bool} {c c':Nat} (h:After o place nodes nodes' unique' memo' r f c) (hc:c<=c'):After o place nodes nodes' unique' memo' r f c':=⟨h.ts,h.pre,h.vd,h.dn,Nat.le_trans h.le (Nat.add_le_add_left hc _)⟩
section
variable {a b:GDiagram} {Q:GDiagram->Option Int->Prop}
end
end Go.Gg
namespace Go.Gg
structure Least (n:Nat) (f:Asg->Bool) (m:Nat):Prop where
 lt:m<2^n
 yes:f (stA m)=true
 no:∀s,s<m->f (stA s)=false
end Go.Gg
namespace Go.Gg
structure Upd (n:Nat) (g f:Asg->Bool) (i:Nat) (t:List Bool):Prop where
 len:t.length=2^n
 at_:∀s:Nat,s<2^n->at' t (s:Int)=if s<i then g (stA s) else f (stA s)
theorem gI {α:Type} {l:List α} {x:α}:(l++[x]).length=l.length+1:=by simp
end Go.Gg
namespace Go.Gg
section
variable {o:List Int} {f:Asg->Bool}
end
end Go.Gg
namespace Go.Gg
theorem i6 {α:Type} [Inhabited α] {l:List α} {a:Int} {x:α} {j:Int} (ha:0<=a/\a<l.length) (hj:0<=j):at' (bq l a x) j=if j=a then x else at' l j:=by
 obtain ⟨n,rfl⟩:∃n:Nat,a=n:=⟨a.toNat,by omega⟩
 obtain ⟨m,rfl⟩:∃n:Nat,j=n:=⟨j.toNat,by omega⟩
 rw [gy om]
 by_cases h:m=n
 ·rw [if_pos h,if_pos om]
 ·rw [if_neg h,if_neg om]
def kL (as:List Int) (m:List Bool):List Bool:=as.foldl (λm a=>bq m a true) m
theorem py:∀(as:List Int) (m:List Bool),(kL as m).length=m.length
 | [],_=>rfl
 | a :: as,m=>by rw [kL,List.foldl_cons];exact (py as _).trans dJ
theorem rk:∀(as:List Int) (m:List Bool) {j:Int},(∀a∈as,0<=a/\a<m.length)->0<=j->(at' (kL as m) j=true↔at' m j=true\/j∈as)
 | [],m,j,_,_=>by simp [kL]
 | a :: as,m,j,h,hj=>by
  have ha:=h a (by simp)
  have ih:=rk as (bq m a true) (j:=j) (λb hb=>by rw [dJ];exact h b (List.mem_cons_of_mem _ hb)) hj
  rw [kL,List.foldl_cons]
  show at' (kL as (bq m a true)) j=true↔_
  rw [ih,i6 ha hj,List.mem_cons]
  by_cases he:j=a
  ·rw [if_pos he];simp [he]
  ·rw [if_neg he];simp [he]
theorem xE {as:List Int} {a:Int} {m:List Bool}:kL (as++[a]) m=bq (kL as m) a true:=by simp [kL]
theorem mV {α:Type} [Inhabited α] {l:List α} {j:Nat} (h:j<l.length):l.take (j+1)=l.take j++[at' l (j:Int)]:=by
 rw [List.take_add_one,List.getElem?_eq_getElem h]
 simp [at',List.getD_eq_getElem?_getD,h]
theorem ss {α:Type} [Inhabited α] {l:List α} {j:Nat} (h:j<l.length):at' l (j:Int)∈l:=by
 simp only [at',Int.toNat_natCast,List.getD_eq_getElem?_getD,List.getElem?_eq_getElem h,Option.getD_some]
 exact List.getElem_mem h
theorem GG {α:Type} [Inhabited α] {l:List α} {x:α} (h:x∈l):∃j:Nat,j<l.length/\at' l (j:Int)=x:=by
 obtain ⟨j,hj,rfl⟩:=List.mem_iff_getElem.1 h
 exact ⟨j,hj,by simp [at',List.getD_eq_getElem?_getD,hj]⟩
def xw (f:GFormula) (i:Nat) (m:List Bool):List Bool:=if at' m (f.Vars+i)=true then kL (at' f.Nodes (i:Int)).Args m else m
def iB (f:GFormula):Nat->List Bool
 | 0=>bq (bu (f.Vars+(f.Nodes.length:Int)) false) f.Top true
 | k+1=>xw f (f.Nodes.length-1-k) (iB f k)
section
variable {f:GFormula}
theorem kG (g:FG f):∀k,((iB f k).length:Int)=f.Vars+f.Nodes.length
 | 0=>by
  have:=g.v0
  rw [iB,dJ,oH om]
 | k+1=>by
  rw [iB,xw]
  split
  ·rw [py];exact kG g k
  ·exact kG g k
theorem rS (g:FG f) {i:Nat} (hi:i<f.Nodes.length):∀a∈(at' f.Nodes (i:Int)).Args,0<=a/\a<f.Vars+i:=λa ha=>by
 obtain ⟨j,hj,rfl⟩:=GG ha
 exact (fh (g.node i hi)).arg j hj
structure Below (f:GFormula) (k:Nat) (m:List Bool):Prop where
 top:at' m f.Top=true
 cl:∀i:Nat,f.Nodes.length-k<=i->i<f.Nodes.length->at' m (f.Vars+i)=true->∀a∈(at' f.Nodes (i:Int)).Args,at' m a=true
theorem od (g:FG f):∀k,k<=f.Nodes.length->Below f k (iB f k)
 | 0,_=>by
  have:=g.v0;have:=g.top0;have:=g.top
  have hl:((bu (f.Vars+(f.Nodes.length:Int)) false).length:Int)=f.Vars+f.Nodes.length:=oH om
  refine ⟨?_,λi h1 h2=>om⟩
  rw [iB,i6 om om,if_pos rfl]
 | k+1,hk=>by
  have ih:=od g k om
  have hl:=kG g k
  have v0:=g.v0
  have hi:f.Nodes.length-1-k<f.Nodes.length:=om
  have hin:=rS g hi
  have hin':∀a∈(at' f.Nodes ((f.Nodes.length-1-k:Nat):Int)).Args,0<=a/\a<(iB f k).length:=λa ha=>by have:=hin a ha;omega
  rw [iB,xw]
  split
  ·rename_i hm
   refine ⟨(rk _ _ hin' g.top0).2 (.inl ih.top),λi h1 h2 h3 a ha=>?_⟩
   have ha0:=rS g h2 a ha
   rw [rk _ _ hin' om] at h3 ⊢
   by_cases he:i=f.Nodes.length-1-k
   ·subst he;exact .inr ha
   ·rcases h3 with h3 | h3
    ·exact .inl (ih.cl i om h2 h3 a ha)
    ·have:=hin _ h3;omega
  ·rename_i hm
   refine ⟨ih.top,λi h1 h2 h3 a ha=>?_⟩
   by_cases he:i=f.Nodes.length-1-k
   ·subst he;exact absurd h3 hm
   ·exact ih.cl i om h2 h3 a ha
theorem AC (g:FG f) {Q:List Bool->Prop} (hQ:Q (iB f f.Nodes.length)):ij f Q:=by
 have v0:=g.v0;have v24:=g.v24;have n128:=g.n128;have t0:=g.top0;have tt:=g.top
 refine ⟨by unfold rng;omega,⟨by omega,by omega,by omega,by omega⟩,by omega,by unfold rng;omega,?_⟩
 refine ⟨λy=>∃k:Nat,k<=f.Nodes.length/\y=((f.Nodes.length:Int)-1-k,iB f k),λy=>(y.1+1).toNat,⟨0,by omega,by simp [iB]⟩,?_⟩
 rintro _ ⟨k,hk,rfl⟩
 refine condT (λhc=>?_) (λhc=>?_)
 ·have ei:(f.Nodes.length:Int)-1-k=((f.Nodes.length-1-k:Nat):Int):=om
  have hi:f.Nodes.length-1-k<f.Nodes.length:=om
  have hl:=kG g k
  have hin:=rS g hi
  rw [ei]
  refine ⟨by unfold rng;omega,by omega,bg (λhm=>⟨by omega,?_⟩) (λhm=>⟨by unfold rng;omega,⟨k+1,by omega,?_⟩,by dsimp only;omega⟩)⟩
  ·have ll:=(fh (g.node _ hi)).len
   refine eI (n:=(at' f.Nodes ((f.Nodes.length-1-k:Nat):Int)).Args.length) (λj=>((j:Int),kL ((at' f.Nodes ((f.Nodes.length-1-k:Nat):Int)).Args.take j) (iB f k))) (λy=>y.1) 0 (λi=>by dsimp only;omega) rfl (λj next hj hn=>?_) (λnext=>?_)
   ·have ha:=hin _ (ss hj)
    refine condT (λ_=>⟨by omega,by rw [py];omega,by unfold rng;omega,?_⟩) (λhc=>absurd (show (j:Int)<_ by omega) hc)
    rw [mV hj,xE] at hn
    exact hn
   ·refine condT (λhc=>absurd hc om) (λ_=>⟨by unfold rng;omega,⟨k+1,by omega,?_⟩,by dsimp only;omega⟩)
    rw [List.take_length,iB,xw,if_pos hm]
    refine Prod.ext ?_ rfl
    show _=_
    simp only;omega
  ·rw [iB,xw,if_neg (by rw [hm];simp)]
   refine Prod.ext ?_ rfl
   show _=_
   simp only;omega
 ·obtain rfl:k=f.Nodes.length:=om
  exact hQ
theorem xv {α:Type} [Inhabited α] {l:List α} {a:Int} (h:0<=a/\a<=l.length):((cB l a (l.length:Int)).length:Int)=l.length-a/\∀i:Nat,(i:Int)<l.length-a->at' (cB l a (l.length:Int)) (i:Int)=at' l (a+i):=by
 obtain ⟨n,rfl⟩:∃n:Nat,a=n:=⟨a.toNat,by omega⟩
 refine ⟨by simp [cB];omega,λi hi=>?_⟩
 rw [show (n:Int)+(i:Int)=((n+i:Nat):Int) by omega]
 simp only [at',cB,List.getD_eq_getElem?_getD,Int.toNat_natCast]
 rw [List.getElem?_take,if_pos om,List.getElem?_drop]
theorem Ga {Q:Int->Int->Option Int->Prop} (ht:rng f.Top) (h1:jd f≠0->Q 0 0 (some (jd f))) (h2:FG f->∀r a,0<=r->(r=0->f.Top<f.Vars)->Q r a none):lh f Q:=by
 refine eO ht ?_
 by_cases h0:jd f=0
 ·have g:=jv.1 h0
  have v0:=g.v0;have v24:=g.v24;have n128:=g.n128
  have hl:=kG g f.Nodes.length
  have hb:=od g f.Nodes.length (Nat.le_refl _)
  obtain ⟨sl,sa⟩:=xv (l:=iB f f.Nodes.length) (a:=f.Vars) om
  rw [h0]
  refine bg (λhc=>by cases hc) (λ_=>⟨_,AC g rfl,⟨by omega,by omega,by omega⟩,?_⟩)
  refine dO (n:=f.Nodes.length) (λi (y:Int×Int×Int)=>(y.2.2=(i:Int)/\0<=y.1/\y.1<=(i:Int)/\0<=y.2.1/\y.2.1<=16*(i:Int))/\(y.1=0->∀k:Nat,k<i->at' (iB f f.Nodes.length) (f.Vars+k)=false)) (λy=>y.2.2) 0 (λi y hy=>by rw [hy.1.1];omega) ⟨by dsimp only;omega,λ_ k hk=>absurd hk om⟩ ?_ ?_
  ·rintro i ⟨nn,aa,x⟩ next hi ⟨⟨hx,a1,a2,a3,a4⟩,hz⟩ hn
   dsimp only at hx a1 a2 a3 a4 hz
   subst hx
   have ll:=(fh (g.node _ hi)).len
   dsimp only
   rw [sa i om]
   refine condT (λ_=>⟨by omega,bg (λhm=>⟨by unfold rng;omega,by omega,by unfold rng;omega,hY ⟨by unfold rng;omega,hn _ ⟨by dsimp only;omega,λhc=>by dsimp only at hc;omega⟩⟩⟩) (λhm=>⟨by unfold rng;omega,hn _ ⟨by dsimp only;omega,λhc k hk=>?_⟩⟩)⟩) (λhc=>absurd (show (i:Int)<_ by omega) hc)
   by_cases hk2:k<i
   ·exact hz hc k hk2
   ·obtain rfl:k=i:=om
    exact hm
  ·rintro ⟨nn,aa,x⟩ next ⟨⟨hx,a1,a2,a3,a4⟩,hz⟩
   dsimp only at hx a1 a2 a3 a4 hz
   subst hx
   refine condT (λhc=>absurd hc om) (λ_=>h2 g nn aa a1 λhr=>?_)
   by_cases hT:f.Top<f.Vars
   ·exact hT
   ·have:=hz hr (f.Top-f.Vars).toNat (by have:=g.top;omega)
    rw [show f.Vars+((f.Top-f.Vars).toNat:Int)=f.Top by omega,hb.top] at this
    cases this
 ·have:Option.isSome (ly (jd f))=true:=by rw [dD];simp [h0]
  have e:ly (jd f)=some (jd f):=un h0
  rw [e]
  exact bg (λ_=>h1 h0) (λhc=>by cases hc)
theorem pY {f g:GFormula} {s:Nat} (hV:f.Vars=g.Vars):∀n,(∀i:Nat,i<n->at' f.Nodes (i:Int)=at' g.Nodes (i:Int))->cq f s n=cq g s n
 | 0,_=>by rw [cq,cq,hV]
 | n+1,h=>by rw [cq,cq,pY hV n (λi hi=>h i om),h n om]
theorem vN {f g:GFormula} {i:Nat} (hV:f.Vars=g.Vars) (h:at' f.Nodes (i:Int)=at' g.Nodes (i:Int)):iU f i=iU g i:=by
 unfold iU;rw [h,hV]
theorem w6 {α β:Type} [Inhabited α] [Inhabited β] {l:List α} {g:α->β} {j:Nat} (h:j<l.length):at' (l.map g) (j:Int)=g (at' l (j:Int)):=by
 simp [at',List.getD_eq_getElem?_getD,h]
theorem F9 {Q:GFormula->Option Int->Prop} (g:FG f) (hQ:∀x,FG x->x.Vars=f.Vars->(∀s,FV x s=FV f s)->(∀n:Nat,n<x.Nodes.length->∃k:Nat,k<f.Nodes.length/\∀s,at' (cq x s x.Nodes.length) (f.Vars+n)=at' (cq f s f.Nodes.length) (f.Vars+k))->Q x none):k_ f Q:=by
 have v0:=g.v0;have v24:=g.v24;have n128:=g.n128;have t0:=g.top0;have tt:=g.top
 have hl:=kG g f.Nodes.length
 have hb:=od g f.Nodes.length (Nat.le_refl _)
 obtain ⟨sl,sa⟩:=xv (l:=iB f f.Nodes.length) (a:=f.Vars) om
 have hrl:((bu (f.Vars+(f.Nodes.length:Int)) (0:Int)).length:Int)=f.Vars+f.Nodes.length:=oH om
 refine eO (by unfold rng;omega) ?_
 rw [jv.2 g]
 refine bg (λhc=>by cases hc) (λ_=>⟨by unfold rng;omega,⟨by omega,by omega,by omega,by omega⟩,?_⟩)
 refine dO (n:=f.Vars.toNat) (λi (y:Int×List Int)=>(y.1=(i:Int)/\(y.2.length:Int)=f.Vars+f.Nodes.length)/\∀v:Nat,v<i->at' y.2 (v:Int)=(v:Int)) (λy=>y.1) 0 (λi y hy=>by rw [hy.1.1];omega) ⟨⟨rfl,hrl⟩,λv hv=>absurd hv om⟩ ?_ ?_
 ·rintro i ⟨x,to⟩ next hi ⟨⟨hx,hl1⟩,hI⟩ hn
  dsimp only at hx hl1 hI
  subst hx
  refine condT (λ_=>⟨by omega,by unfold rng;omega,hn _ ⟨⟨by dsimp only;omega,by dsimp only;rw [dJ];exact hl1⟩,λv hv=>?_⟩⟩) (λhc=>absurd (show (i:Int)<f.Vars by omega) hc)
  dsimp only
  rw [gy om]
  split
  ·rename_i he;rw [he]
  ·exact hI v om
 rintro ⟨x,to0⟩ next ⟨⟨hx,hl1⟩,hI⟩
 dsimp only at hx hl1 hI
 subst hx
 refine condT (λhc=>absurd hc om) (λ_=>⟨_,AC g rfl,⟨by omega,by omega,by omega⟩,?_⟩)
 refine dO (n:=f.Nodes.length) (λi (y:Int×List Int×List GNode)=>(y.1=(i:Int)/\(y.2.1.length:Int)=f.Vars+f.Nodes.length/\y.2.2.length<=i)/\(∀v:Nat,(v:Int)<f.Vars->at' y.2.1 (v:Int)=(v:Int))/\(∀n:Nat,n<y.2.2.length->iU ⟨f.Vars,y.2.2,0⟩ n=0/\∃k:Nat,k<f.Nodes.length/\∀s,at' (cq ⟨f.Vars,y.2.2,0⟩ s y.2.2.length) (f.Vars+n)=at' (cq f s f.Nodes.length) (f.Vars+k))/\
   ∀k:Nat,k<i->at' (iB f f.Nodes.length) (f.Vars+k)=true->(0<=at' y.2.1 (f.Vars+k)/\at' y.2.1 (f.Vars+k)<f.Vars+y.2.2.length)/\∀s,at' (cq ⟨f.Vars,y.2.2,0⟩ s y.2.2.length) (at' y.2.1 (f.Vars+k))=at' (cq f s f.Nodes.length) (f.Vars+k)) (λy=>y.1) 0
  (λi y hy=>by rw [hy.1.1];omega) ⟨⟨rfl,hl1,by simp⟩,λv hv=>hI v om,λn hn=>by simp at hn,λk hk=>absurd hk om⟩ ?_ ?_
 ·rintro i ⟨x,to,x2⟩ next2 hi ⟨⟨hx,hl2,hx2⟩,hV,hN,hK⟩ hn
  dsimp only at hx hl2 hx2 hV hN hK
  subst hx
  have ng:=fh (g.node i hi)
  have hin:=rS g hi
  dsimp only
  rw [sa i om]
  refine condT (λ_=>⟨by omega,bg (λhm=>?_) (λhm=>⟨by omega,?_⟩)⟩) (λhc=>absurd (show (i:Int)<_ by omega) hc)
  ·have hm':at' (iB f f.Nodes.length) (f.Vars+i)=false:=by simpa using hm
   refine ⟨by unfold rng;omega,hn _ ⟨⟨by dsimp only;omega,hl2,by dsimp only;omega⟩,hV,hN,λk hk hmk=>?_⟩⟩
   by_cases hk2:k<i
   ·exact hK k hk2 hmk
   ·obtain rfl:k=i:=om
    rw [hm'] at hmk;cases hmk
  ·have hm':at' (iB f f.Nodes.length) (f.Vars+i)=true:=by simpa using hm
   have ll:=ng.len
   have hcl:=hb.cl i om hi hm'
   have harg:∀a∈(at' f.Nodes (i:Int)).Args,(0<=at' to a/\at' to a<f.Vars+x2.length)/\∀s,at' (cq ⟨f.Vars,x2,0⟩ s x2.length) (at' to a)=at' (cq f s i) a:=λa ha=>by
    have h3:=hin a ha
    by_cases hv:a<f.Vars
    ·obtain ⟨v,rfl⟩:∃v:Nat,a=v:=⟨a.toNat,by omega⟩
     rw [hV v hv]
     refine ⟨by omega,λs=>?_⟩
     rw [gS (f:=⟨f.Vars,x2,0⟩) om hv,gS om hv]
    ·obtain ⟨k,rfl⟩:∃k:Nat,a=f.Vars+k:=⟨(a-f.Vars).toNat,by omega⟩
     obtain ⟨q1,q2⟩:=hK k om (hcl _ ha)
     refine ⟨q1,λs=>?_⟩
     rw [q2,iG (m:=i) om om f.Nodes.length om]
   refine eI (n:=(at' f.Nodes (i:Int)).Args.length) (λj=>((j:Int),((at' f.Nodes (i:Int)).Args.take j).map λa=>at' to a)) (λy=>y.1) 0 (λj=>by dsimp only;omega) rfl (λj next3 hj hn3=>?_) (λnext3=>?_)
   ·have h3:=hin _ (ss hj)
    dsimp only
    refine condT (λ_=>⟨by omega,by omega,by rw [gI,List.length_map,List.length_take];omega,by unfold rng;omega,?_⟩) (λhc=>absurd (show (j:Int)<_ by omega) hc)
    rw [mV hj,List.map_append] at hn3
    exact hn3
   ·refine condT (λhc=>absurd hc om) (λ_=>?_)
    dsimp only
    rw [List.take_length]
    generalize hxn:(⟨(at' f.Nodes (i:Int)).Kind,(at' f.Nodes (i:Int)).K,(at' f.Nodes (i:Int)).Args.map λa=>at' to a⟩:GNode)=xn
    have hlast:at' (x2++[xn]) (x2.length:Int)=xn:=gz
    have hold:∀n:Nat,n<x2.length->at' (x2++[xn]) (n:Int)=at' x2 (n:Int):=λn hn=>dE om om
    have hvo:∀s n,n<=x2.length->cq ⟨f.Vars,x2++[xn],0⟩ s n=cq ⟨f.Vars,x2,0⟩ s n:=λs n hn=>pY (f:=⟨f.Vars,x2++[xn],0⟩) (g:=⟨f.Vars,x2,0⟩) rfl n λk hk=>hold k om
    have hval:∀s,at' (cq ⟨f.Vars,x2++[xn],0⟩ s (x2.length+1)) (f.Vars+x2.length)=at' (cq f s f.Nodes.length) (f.Vars+i):=λs=>by
     have e:=mq (f:=⟨f.Vars,x2++[xn],0⟩) (s:=s) (i:=x2.length) v0 (by simp)
     rw [show (⟨f.Vars,x2++[xn],0⟩:GFormula).Nodes.length=x2.length+1 from gI] at e
     rw [e,mq v0 hi]
     show gn (at' (x2++[xn]) (x2.length:Int)) _=_
     rw [hlast,hvo s _ (Nat.le_refl _),<-hxn]
     unfold gn
     have ec:cnt ⟨(at' f.Nodes (i:Int)).Kind,(at' f.Nodes (i:Int)).K,(at' f.Nodes (i:Int)).Args.map λa=>at' to a⟩ (cq ⟨f.Vars,x2,0⟩ s x2.length) (at' f.Nodes (i:Int)).Args.length=cnt (at' f.Nodes (i:Int)) (cq f s i) (at' f.Nodes (i:Int)).Args.length:=by
      have:∀j,j<=(at' f.Nodes (i:Int)).Args.length->cnt ⟨(at' f.Nodes (i:Int)).Kind,(at' f.Nodes (i:Int)).K,(at' f.Nodes (i:Int)).Args.map λa=>at' to a⟩ (cq ⟨f.Vars,x2,0⟩ s x2.length) j=cnt (at' f.Nodes (i:Int)) (cq f s i) j:=λj=>by
       induction j with
       | zero=>intro _;rfl
       | succ j ih=>
        intro hj
        rw [cnt,cnt,ih om]
        simp only
        rw [w6 om,(harg _ (ss om)).2 s]
      exact this _ (Nat.le_refl _)
     simp only [List.length_map]
     rw [ec]
     unfold mG
     simp only [List.length_map]
    refine ⟨by unfold rng;omega,by unfold rng;omega,by omega,by rw [gI];omega,by unfold rng;omega,hn _ ⟨⟨by dsimp only;omega,by dsimp only;rw [dJ];exact hl2,by dsimp only;rw [gI];omega⟩,λv hv=>?_,λn hn2=>?_,λk hk hmk=>?_⟩⟩
    ·dsimp only
     rw [i6 om om,if_neg om]
     exact hV v hv
    ·dsimp only at hn2 ⊢
     rw [gI] at hn2
     by_cases hlt:n<x2.length
     ·rw [vN (f:=⟨f.Vars,x2++[xn],0⟩) (g:=⟨f.Vars,x2,0⟩) rfl (hold n hlt),gI]
      obtain ⟨q1,k,q2,q3⟩:=hN n hlt
      refine ⟨q1,k,q2,λs=>?_⟩
      rw [iG (m:=x2.length) om (by show _<(f.Vars.toNat:Int)+_;omega) (x2.length+1) om,hvo s _ (Nat.le_refl _)]
      exact q3 s
     ·obtain rfl:n=x2.length:=om
      refine ⟨?_,i,hi,λs=>by rw [gI];exact hval s⟩
      have h0:=g.node i hi
      unfold iU at h0 ⊢
      simp only [hlast]
      rw [<-hxn]
      simp only [List.length_map]
      split at h0
      ·cases h0
      rename_i c1
      split at h0
      ·cases h0
      rename_i c2
      split at h0
      ·cases h0
      rw [if_neg c1,if_neg c2,if_neg]
      ·exact h0
      ·rintro ⟨j,hj,hc⟩
       rw [w6 hj] at hc
       have:=(harg _ (ss hj)).1
       omega
    ·dsimp only
     rw [i6 om om,gI]
     by_cases hki:k=i
     ·subst hki
      rw [if_pos rfl]
      exact ⟨by omega,hval⟩
     ·rw [if_neg om]
      obtain ⟨q1,q2⟩:=hK k om hmk
      refine ⟨by omega,λs=>?_⟩
      rw [iG (m:=x2.length) q1.1 (by show _<(f.Vars.toNat:Int)+_;omega) (x2.length+1) om,hvo s _ (Nat.le_refl _)]
      exact q2 s
 ·rintro ⟨x,to,x2⟩ next2 ⟨⟨hx,hl2,hx2⟩,hV,hN,hK⟩
  dsimp only at hx hl2 hx2 hV hN hK
  subst hx
  have hT:(0<=at' to f.Top/\at' to f.Top<f.Vars+x2.length)/\∀s,at' (cq ⟨f.Vars,x2,0⟩ s x2.length) (at' to f.Top)=at' (cq f s f.Nodes.length) f.Top:=by
   by_cases hv:f.Top<f.Vars
   ·obtain ⟨v,hv'⟩:∃v:Nat,f.Top=v:=⟨f.Top.toNat,by omega⟩
    rw [hv'] at hv ⊢
    rw [hV v hv]
    refine ⟨by omega,λs=>?_⟩
    rw [gS (f:=⟨f.Vars,x2,0⟩) om hv,gS om hv]
   ·obtain ⟨k,hk⟩:∃k:Nat,f.Top=f.Vars+k:=⟨(f.Top-f.Vars).toNat,by omega⟩
    have hbt:=hb.top
    rw [hk] at hbt ⊢
    exact hK k om hbt
  refine condT (λhc=>absurd hc om) (λ_=>⟨by omega,hQ _ ⟨v0,v24,by show x2.length<=128;omega,λn hn=>?_,hT.1.1,hT.1.2⟩ rfl (λs=>?_) λn hn=>?_⟩)
  ·rw [vN (f:=⟨f.Vars,x2,at' to f.Top⟩) (g:=⟨f.Vars,x2,0⟩) rfl rfl]
   exact (hN n hn).1
  ·show at' (cq ⟨f.Vars,x2,at' to f.Top⟩ s x2.length) (at' to f.Top)=_
   rw [pY (f:=⟨f.Vars,x2,at' to f.Top⟩) (g:=⟨f.Vars,x2,0⟩) rfl _ (λ_ _=>rfl),hT.2 s]
   rfl
  ·obtain ⟨_,k,q2,q3⟩:=hN n hn
   refine ⟨k,q2,λs=>?_⟩
   show at' (cq ⟨f.Vars,x2,at' to f.Top⟩ s x2.length) _=_
   rw [pY (f:=⟨f.Vars,x2,at' to f.Top⟩) (g:=⟨f.Vars,x2,0⟩) rfl _ (λ_ _=>rfl)]
   exact q3 s
end
end Go.Gg
namespace Go.Gg
theorem D9 {σ:Type} {n:Nat} (st:Nat->σ) (ix:σ->Int) (c:Int) (hix:∀i,i<=n->ix (st i)=i+c) {x0:σ} {body:σ->(σ->Prop)->Prop} (h0:x0=st 0)
  (hs:∀i (next:σ->Prop),i<n->next (st (i+1))->body (st i) next) (he:∀(next:σ->Prop),body (st n) next):bh x0 body:=by
 refine ⟨λy=>∃i,i<=n/\y=st i,λy=>n-(ix y-c).toNat,⟨0,Nat.zero_le _,h0⟩,?_⟩
 rintro _ ⟨i,hi,rfl⟩
 rcases Nat.lt_or_ge i n with h | h
 ·refine hs i _ h ⟨⟨i+1,h,rfl⟩,?_⟩
  have h1:=hix i hi
  have h2:=hix (i+1) h
  dsimp only
  rw [h1,h2]
  omega
 ·obtain rfl:i=n:=om
  exact he _
theorem zm {σ τ:Type} {n:Nat} (Inv:Nat->σ->Prop) (ix:σ->Int) (c:Int) (hix:∀i y,Inv i y->ix y=i+c) {x0:σ} {B:τ->σ->(σ->Prop)->Prop} (h0:Inv 0 x0)
  (hs:∀i x,i<n->Inv i x->∃y,Inv (i+1) y/\∀(Q:τ) (next:σ->Prop),next y->B Q x next):∃y,Inv n y/\∀Q:τ,(∀next,B Q y next)->bh x0 (B Q):=by
 have key:∀k,k<=n->∃st:Nat->σ,st 0=x0/\(∀i,i<=k->Inv i (st i))/\∀i,i<k->∀(Q:τ) (next:σ->Prop),next (st (i+1))->B Q (st i) next:=λk=>by
  induction k with
  | zero=>exact λ_=>⟨λ_=>x0,rfl,λi hi=>(by obtain rfl:i=0:=om;exact h0),λi hi=>absurd hi om⟩
  | succ k ih=>
   intro hk
   obtain ⟨st,a,b,d⟩:=ih om
   obtain ⟨y,hy,w⟩:=hs k (st k) om (b k (Nat.le_refl _))
   refine ⟨λi=>if i<=k then st i else y,by simp [a],λi hi=>?_,λi hi Q next hn=>?_⟩
   ·by_cases h1:i<=k
    ·simp only [h1,if_true];exact b i h1
    ·obtain rfl:i=k+1:=om
     simp only [h1,if_false];exact hy
   ·by_cases h1:i=k
    ·subst h1
     simp only [Nat.le_refl,if_true]
     simp only [show ¬i+1<=i by omega,if_false] at hn
     exact w Q next hn
    ·simp only [show i<=k by omega,if_true]
     simp only [show i+1<=k by omega,if_true] at hn
     exact d i om Q next hn
 obtain ⟨st,a,b,d⟩:=key n (Nat.le_refl _)
 exact ⟨st n,b n (Nat.le_refl _),λQ he=>D9 st ix c (λi hi=>hix i _ (b i hi)) a.symm (λi next hi hn=>d i hi Q next hn) he⟩
def EC (M:Int->Int->List Int->List Int->List GDNode->GMap Int->GMap Int->(List GDNode->GMap Int->GMap Int->Int->Prop)->Prop) (g:Bool->Bool->Bool):Prop:=
 ∀ {o place:List Int} {nodes:List GDNode} {unique memo:GMap Int},TS o place nodes unique memo->o.length<=24->nodes.length<=1099478073344->∀ {a b:Int},Vd nodes a->Vd nodes b->
  ∃nodes' unique' memo' r,After o place nodes nodes' unique' memo' r (λσ=>g (dn nodes a σ) (dn nodes b σ)) 33554432/\
   ∀Q:List GDNode->GMap Int->GMap Int->Int->Prop,Q nodes' unique' memo' r->M a b o place nodes unique memo Q
theorem DT:EC du (λx y=>x && y):=by
 intro o place nodes unique memo h hn hb a b ha hb'
 have h1:=pP hn
 obtain ⟨n1,u1,m1,r,ha,w⟩:=GU h om ha hb'
 exact ⟨n1,u1,m1,r,ha.mono om,w⟩
theorem FD:EC dR (λx y=>x || y):=by
 intro o place nodes unique memo h hn hb a b ha hb'
 have h1:=pP hn
 obtain ⟨n1,u1,m1,r,ha,w⟩:=Hm h om ha hb'
 exact ⟨n1,u1,m1,r,ha.mono om,w⟩
theorem DS:EC dr (λx y=>x != y):=by
 intro o place nodes unique memo h hn hb a b ha hb'
 have h1:=pP hn
 obtain ⟨n1,u1,m1,r,ha,w⟩:=GS h om ha hb'
 exact ⟨n1,u1,m1,r,ha.mono om,w⟩
def GF (M:Int->Int->List Int->List Int->List GDNode->GMap Int->GMap Int->(List GDNode->GMap Int->GMap Int->Int->Prop)->Prop) (refs:List Int) (first:Int) (order:List Int) (place:List Int) (nodes:List GDNode) (unique:GMap Int) (memo:GMap Int) (Q:List GDNode->GMap Int->GMap Int->Int->Prop):Prop:=
 bh (σ:=Int×Int×(List GDNode)×(GMap Int)×(GMap Int)) (first,0,nodes,unique,memo) λ⟨first1,x,x1,x2,x3⟩ next1=>
  ah (decide (x<(refs.length:Int)))
   (((0:Int)<=x/\x<(refs.length:Int))/\
   M first1 (at' refs x) order place x1 x2 x3 λu u1 u2 first2=>
   rng (x+1)/\
   next1 (first2,(x+1),u,u1,u2))
   (Q x1 x2 x3 first1)
def qI (g:Bool->Bool->Bool) (c:Bool) (b:Nat->Bool):Nat->Bool
 | 0=>c
 | i+1=>g (qI g c b i) (b i)
section
variable {o place:List Int} {nodes:List GDNode} {unique memo:GMap Int}
theorem za {M:Int->Int->List Int->List Int->List GDNode->GMap Int->GMap Int->(List GDNode->GMap Int->GMap Int->Int->Prop)->Prop} {g:Bool->Bool->Bool} (hM:EC M g) (h:TS o place nodes unique memo) (hn:o.length<=24) {refs:List Int} {first:Int} {c:Bool} (hl:refs.length<=16)
  (hb:nodes.length<=549755813888) (hf:Vd nodes first) (hc:dn nodes first=λ_=>c) (hr:∀j:Nat,j<refs.length->Vd nodes (at' refs (j:Int))) :
  ∃nodes' unique' memo' r,After o place nodes nodes' unique' memo' r (λσ=>qI g c (λj=>dn nodes (at' refs (j:Int)) σ) refs.length) 4294967296/\
   ∀Q:List GDNode->GMap Int->GMap Int->Int->Prop,Q nodes' unique' memo' r->GF M refs first o place nodes unique memo Q:=by
 obtain ⟨⟨r,x,n1,u1,m1⟩,⟨⟨hx,hT⟩,hP,hV,hD,hL⟩,w⟩:=zm (τ:=List GDNode->GMap Int->GMap Int->Int->Prop) (n:=refs.length) (x0:=(first,0,nodes,unique,memo))
  (λi (y:Int×Int×(List GDNode)×(GMap Int)×(GMap Int))=>(y.2.1=(i:Int)/\TS o place y.2.2.1 y.2.2.2.1 y.2.2.2.2)/\Pre nodes y.2.2.1/\Vd y.2.2.1 y.1/\dn y.2.2.1 y.1=(λσ=>qI g c (λj=>dn nodes (at' refs (j:Int)) σ) i)/\y.2.2.1.length<=nodes.length+33554432*i)
  (λy=>y.2.1) 0 (λi y hy=>by rw [hy.1.1];omega)
  (B:=λQ=>λ⟨first1,x,x1,x2,x3⟩ next1=>
  ah (decide (x<(refs.length:Int)))
   (((0:Int)<=x/\x<(refs.length:Int))/\
   M first1 (at' refs x) o place x1 x2 x3 λu u1 u2 first2=>
   rng (x+1)/\
   next1 (first2,(x+1),u,u1,u2))
   (Q x1 x2 x3 first1))
  ⟨⟨rfl,h⟩,Pre.refl _,hf,hc,by dsimp only;omega⟩ (by
   rintro i ⟨r,x,n1,u1,m1⟩ hi ⟨⟨hx,hT⟩,hP,hV,hD,hL⟩
   dsimp only at hx hT hP hV hD hL
   subst hx
   have hri:=hr i hi
   have hi16:i<16:=Nat.lt_of_lt_of_le hi hl
   have hL2:n1.length<=550292684800:=Nat.le_trans hL om
   obtain ⟨n2,u2,m2,r2,a2,w2⟩:=hM hT hn (Nat.le_trans hL2 (by decide)) hV (hri.pre hP)
   have l2:=a2.le
   refine ⟨(r2,(i:Int)+1,n2,u2,m2),⟨⟨by dsimp only;omega,a2.ts⟩,hP.trans a2.pre,a2.vd,?_,Nat.le_trans l2 om⟩,λQ next hn=>condT (λ_=>⟨by omega,w2 _ ⟨by unfold rng;omega,hn⟩⟩) (λhc=>absurd (show (i:Int)<refs.length by omega) hc)⟩
   dsimp only
   rw [a2.dn,hD,fC hri hP]
   rfl)
 dsimp only at hx hT hP hV hD hL
 subst hx
 exact ⟨n1,u1,m1,r,⟨hT,hP,hV,hD,Nat.le_trans hL om⟩,λQ hQ=>w Q λnext=>condT (λhc=>absurd hc om) (λ_=>hQ)⟩
def jQ (b:Nat->Bool):Nat->Nat
 | 0=>0
 | i+1=>jQ b i+(if b i=true then 1 else 0)
theorem AA {b:Nat->Bool}:∀i,jQ b i<=i
 | 0=>Nat.le_refl _
 | i+1=>by have:=AA (b:=b) i;rw [jQ];split<;>omega
theorem yu {b:Nat->Bool}:∀i,qI (λx y=>x && y) true b i=decide (jQ b i=i)
 | 0=>rfl
 | i+1=>by
  have:=AA (b:=b) i
  rw [qI,yu i,jQ]
  cases hb:b i
  ·rw [Bool.and_false,if_neg (by simp)];exact (decide_eq_false om).symm
  ·rw [Bool.and_true,if_pos rfl];exact decide_eq_decide.2 om
theorem Ao {b:Nat->Bool}:∀i,qI (λx y=>x || y) false b i=decide (0<jQ b i)
 | 0=>rfl
 | i+1=>by
  rw [qI,Ao i,jQ]
  cases hb:b i
  ·rw [Bool.or_false,if_neg (by simp)];rfl
  ·rw [Bool.or_true,if_pos rfl];exact (decide_eq_true om).symm
theorem yt {b:Nat->Bool}:∀i,qI (λx y=>x != y) false b i=decide (jQ b i % 2=1)
 | 0=>rfl
 | i+1=>by
  rw [qI,yt i,jQ]
  cases hb:b i
  ·rw [if_neg (by simp),Nat.add_zero];simp
  ·rw [if_pos rfl]
   rcases Nat.mod_two_eq_zero_or_one (jQ b i) with h1 | h1
   ·rw [decide_eq_false om,decide_eq_true om];rfl
   ·rw [decide_eq_true h1,decide_eq_false om];rfl
end
end Go.Gg
namespace Go.Gg
section
variable {N:List GDNode}
structure CubeOk (n:Nat) (c:GCube):Prop where
 yes:0<=c.Yes/\c.Yes.toNat<2^n
 no:0<=c.No/\c.No.toNat<2^n
 dis:c.Yes.toNat &&& c.No.toNat=0
end
end Go.Gg
namespace Go.Gg
section
variable {o:List Int} {f:Asg->Bool}
end
end Go.Gg
namespace Go.Gg
theorem yC {x:GNode} {v:List Bool}:∀j,cnt x v j=jQ (λk=>at' v (at' x.Args (k:Int))) j
 | 0=>rfl
 | j+1=>by rw [cnt,jQ,yC j]
theorem uu {b c:Nat->Bool}:∀j,(∀k,k<j->b k=c k)->jQ b j=jQ c j
 | 0,_=>rfl
 | j+1,h=>by rw [jQ,jQ,uu j (λk hk=>h k om),h j om]
section
variable {o place:List Int} {nodes:List GDNode} {unique memo:GMap Int}
structure Need (nodes:List GDNode) (need:List Int) (k:Nat) (lo:Nat) (a b:Asg->Nat):Prop where
 len:need.length=k+1
 vd:∀m:Nat,m<=k->Vd nodes (at' need (m:Int))
 dn:∀m:Nat,m<=k->dn nodes (at' need (m:Int))=λσ=>decide (m<=(if m<=lo then a σ else b σ))
theorem Ba {nodes':List GDNode} {need:List Int} {k lo:Nat} {a b:Asg->Nat} {c:Asg->Bool} {r:Int} (h:Need nodes need k (lo+1) a b) (hlo:lo+1<=k) (hp:Pre nodes nodes') (hv:Vd nodes' r)
  (hab:∀σ,b σ=a σ+(if c σ=true then 1 else 0)) (hd:dn nodes' r=λσ=>bif c σ then dn nodes (at' need (lo:Int)) σ else dn nodes (at' need ((lo+1:Nat):Int)) σ):Need nodes' (bq need ((lo+1:Nat):Int) r) k lo a b:=by
 have hl:=h.len
 refine ⟨by rw [dJ];exact hl,λm hm=>?_,λm hm=>?_⟩
 ·rw [gy om]
  split
  ·exact hv
  ·exact (h.vd m hm).pre hp
 ·rw [gy om]
  by_cases he:m=lo+1
  ·subst he
   rw [if_pos rfl,hd,h.dn lo om,h.dn (lo+1) hm]
   funext σ
   dsimp only
   rw [if_pos (by omega:lo<=lo+1),if_pos (Nat.le_refl (lo+1)),if_neg (by omega:¬lo+1<=lo),hab]
   cases c σ
   ·simp
   ·simp
  ·rw [if_neg he,fC (h.vd m hm) hp,h.dn m hm]
   funext σ
   by_cases h1:m<=lo
   ·rw [if_pos om,if_pos h1]
   ·rw [if_neg om,if_neg h1]
theorem Fg (h:TS o place nodes unique memo) (hn:o.length<=24) {refs:List Int} {k:Nat} (hk:k<=16) (hl:refs.length<=16) (hb:nodes.length<=549755813888)
  (hr:∀j:Nat,j<refs.length->Vd nodes (at' refs (j:Int))) :
  ∃nodes' unique' memo' r,After o place nodes nodes' unique' memo' r (λσ=>decide (k<=jQ (λj=>dn nodes (at' refs (j:Int)) σ) refs.length)) 4294967296/\
   ∀Q:List GDNode->GMap Int->GMap Int->Int->Prop,Q nodes' unique' memo' r->i0 refs (k:Int) o place nodes unique memo Q:=by
 have w12:=pP hn
 have hrl:((bu ((k:Int)+1) (0:Int)).length:Int)=k+1:=oH om
 have start:Need nodes (bq (bu ((k:Int)+1) 0) 0 1) k k (λσ=>jQ (λj=>dn nodes (at' refs (j:Int)) σ) 0) (λσ=>jQ (λj=>dn nodes (at' refs (j:Int)) σ) 0):=by
  have e:∀m:Nat,m<=k->at' (bq (bu ((k:Int)+1) (0:Int)) 0 1) (m:Int)=if m=0 then 1 else 0:=λm hm=>by
   have:=gy (l:=bu ((k:Int)+1) (0:Int)) (i:=0) (x:=1) (j:=m) om
   rw [show ((0:Nat):Int)=0 from rfl] at this
   rw [this]
   by_cases h0:m=0
   ·rw [if_pos h0,if_pos h0]
   ·rw [if_neg h0,if_neg h0,yU om]
  refine ⟨by rw [dJ];omega,λm hm=>?_,λm hm=>?_⟩
  ·rw [e m hm];split
   ·exact vd1
   ·exact vd0
  ·rw [e m hm]
   by_cases h0:m=0
   ·subst h0;rw [if_pos rfl,dn1];rfl
   ·rw [if_neg h0,dn0];funext σ;simp [jQ,h0]
 obtain ⟨⟨x,need,n1,u1,m1⟩,⟨⟨hx,hT⟩,hP,hN,hL⟩,w⟩:=zm (τ:=List GDNode->GMap Int->GMap Int->Int->Prop) (n:=refs.length) (x0:=((0:Int),bq (bu ((k:Int)+1) 0) 0 1,nodes,unique,memo))
  (λi (y:Int×List Int×(List GDNode)×(GMap Int)×(GMap Int))=>(y.1=(i:Int)/\TS o place y.2.2.1 y.2.2.2.1 y.2.2.2.2)/\Pre nodes y.2.2.1/\Need y.2.2.1 y.2.1 k k (λσ=>jQ (λj=>dn nodes (at' refs (j:Int)) σ) i) (λσ=>jQ (λj=>dn nodes (at' refs (j:Int)) σ) i)/\y.2.2.1.length<=nodes.length+268435456*i)
  (λy=>y.1) 0 (λi y hy=>by rw [hy.1.1];omega)
  (B:=λQ=>λ⟨x,need,x1,x2,x3⟩ next1=>
  ah (decide (x<(refs.length:Int)))
   (((0:Int)<=x/\x<(refs.length:Int))/\
   bh (σ:=Int×(List Int)×(List GDNode)×(GMap Int)×(GMap Int)) ((k:Int),need,x1,x2,x3) λ⟨j,need1,x4,x5,x6⟩ next2=>
    ah (decide (0<j))
     (rng (j-1)/\
     ((0:Int)<=(j-1)/\(j-1)<(need1.length:Int))/\
     ((0:Int)<=j/\j<(need1.length:Int))/\
     ∃u u1 u2 r,(∃fu,aC fu (at' refs x) (at' need1 (j-1)) (at' need1 j) o place x4 x5 x6 λy1 y2 y3 y4=>y1=u/\y2=u1/\y3=u2/\y4=r)/\
     ((0:Int)<=j/\j<(need1.length:Int))/\
     rng (j-1)/\
     next2 ((j-1),(bq need1 j r),u,u1,u2))
     (rng (x+1)/\
     next1 ((x+1),need1,x4,x5,x6)))
   (((0:Int)<=(k:Int)/\(k:Int)<(need.length:Int))/\
   Q x1 x2 x3 (at' need (k:Int))))
  ⟨⟨rfl,h⟩,Pre.refl _,start,by dsimp only;omega⟩ (by
   rintro i ⟨x,need,n1,u1,m1⟩ hi ⟨⟨hx,hT⟩,hP,hN,hL⟩
   dsimp only at hx hT hP hN hL
   subst hx
   have hri:=hr i hi
   have hi16:i<16:=Nat.lt_of_lt_of_le hi hl
   have hL2:n1.length<=554050781184:=Nat.le_trans hL om
   obtain ⟨⟨j,need2,n2,u2,m2⟩,⟨⟨hj,hT2⟩,hP2,hN2,hL3⟩,w2⟩:=zm (τ:=Int×(List Int)×(List GDNode)×(GMap Int)×(GMap Int)->Prop) (n:=k) (x0:=((k:Int),need,n1,u1,m1))
    (λa (y:Int×List Int×(List GDNode)×(GMap Int)×(GMap Int))=>(y.1=(k:Int)-a/\TS o place y.2.2.1 y.2.2.2.1 y.2.2.2.2)/\Pre n1 y.2.2.1/\Need y.2.2.1 y.2.1 k (k-a) (λσ=>jQ (λj=>dn nodes (at' refs (j:Int)) σ) i) (λσ=>jQ (λj=>dn nodes (at' refs (j:Int)) σ) (i+1))/\y.2.2.1.length<=n1.length+16777216*a)
    (λy=>-y.1) (-(k:Int)) (λa y hy=>by rw [hy.1.1];omega)
    (B:=λN2=>λ⟨j,need1,x4,x5,x6⟩ next2=>
    ah (decide (0<j))
     (rng (j-1)/\
     ((0:Int)<=(j-1)/\(j-1)<(need1.length:Int))/\
     ((0:Int)<=j/\j<(need1.length:Int))/\
     ∃u u1 u2 r,(∃fu,aC fu (at' refs (i:Int)) (at' need1 (j-1)) (at' need1 j) o place x4 x5 x6 λy1 y2 y3 y4=>y1=u/\y2=u1/\y3=u2/\y4=r)/\
     ((0:Int)<=j/\j<(need1.length:Int))/\
     rng (j-1)/\
     next2 ((j-1),(bq need1 j r),u,u1,u2))
     (rng ((i:Int)+1)/\
     N2 (((i:Int)+1),need1,x4,x5,x6)))
    ⟨⟨by simp,hT⟩,Pre.refl _,⟨hN.len,hN.vd,λm hm=>by
     have:=hN.dn m hm
     rw [this];funext σ
     rw [if_pos hm,if_pos om]⟩,by dsimp only;omega⟩ (by
     rintro a ⟨j,need2,n2,u2,m2⟩ ha ⟨⟨hj,hT2⟩,hP2,hN2,hL3⟩
     dsimp only at hj hT2 hP2 hN2 hL3
     obtain ⟨lo,hlo⟩:∃lo,k-a=lo+1:=⟨k-a-1,by omega⟩
     obtain rfl:j=((lo+1:Nat):Int):=om
     rw [hlo] at hN2
     have hlo2:lo+1<=k:=om
     have e1:((lo+1:Nat):Int)-1=(lo:Int):=om
     have hl2:=hN2.len
     obtain ⟨n3,u3,m3,r3,a3,w3⟩:=oB hT2 (Nat.le_trans (Nat.add_le_add hL3 w12) om) ((hri.pre hP).pre hP2) (hN2.vd lo om) (hN2.vd (lo+1) hlo2)
     have l3:=a3.le
     refine ⟨((lo:Int),bq need2 ((lo+1:Nat):Int) r3,n3,u3,m3),⟨⟨by dsimp only;omega,a3.ts⟩,hP2.trans a3.pre,?_,Nat.le_trans l3 om⟩,λN2 next hn=>condT (λ_=>?_) (λhc=>absurd (show (0:Int)<_ by omega) hc)⟩
     ·dsimp only
      rw [show k-(a+1)=lo by omega]
      exact Ba hN2 (c:=dn nodes (at' refs (i:Int))) hlo2 a3.pre a3.vd (λσ=>rfl) (by rw [a3.dn,fC (hri.pre hP) hP2,fC hri hP])
     ·rw [e1]
      exact ⟨by unfold rng;omega,by omega,by omega,n3,u3,m3,r3,w3 _ ⟨rfl,rfl,rfl,rfl⟩,by omega,by unfold rng;omega,hn⟩)
   dsimp only at hj hT2 hP2 hN2 hL3
   have hL4:n2.length<=n1.length+268435456:=Nat.le_trans hL3 om
   refine ⟨((i:Int)+1,need2,n2,u2,m2),⟨⟨by dsimp only;omega,hT2⟩,hP.trans hP2,⟨hN2.len,hN2.vd,λm hm=>?_⟩,Nat.le_trans hL4 om⟩,λQ next hn=>condT (λ_=>⟨by omega,w2 _ λnext2=>condT (λhc=>absurd hc om) (λ_=>⟨by unfold rng;omega,hn⟩)⟩) (λhc=>absurd (show (i:Int)<refs.length by omega) hc)⟩
   rw [hN2.dn m hm]
   funext σ
   rw [if_pos hm]
   by_cases h0:m=0
   ·subst h0;simp
   ·rw [if_neg om])
 dsimp only at hx hT hP hN hL
 subst hx
 have hrl2:=hN.len
 refine ⟨n1,u1,m1,at' need (k:Int),⟨hT,hP,hN.vd k (Nat.le_refl _),?_,Nat.le_trans hL om⟩,λQ hQ=>⟨by unfold rng;omega,⟨by omega,by omega,by omega,by omega⟩,by omega,w Q λnext=>condT (λhc=>absurd hc om) (λ_=>⟨by omega,hQ⟩)⟩⟩
 rw [hN.dn k (Nat.le_refl _)]
 funext σ
 rw [if_pos (Nat.le_refl _)]
theorem DZ {f:GFormula} {i:Nat} (h:iU f i=0):((at' f.Nodes (i:Int)).Kind=0->(at' f.Nodes (i:Int)).K=0\/(at' f.Nodes (i:Int)).K=1)/\((at' f.Nodes (i:Int)).Kind=4->1<=(at' f.Nodes (i:Int)).K/\(at' f.Nodes (i:Int)).K<=((at' f.Nodes (i:Int)).Args.length:Int)):=by
 unfold iU at h
 split at h
 ·cases h
 split at h
 ·cases h
 split at h
 ·cases h
 split at h
 ·split at h
  ·cases h
  ·exact ⟨λ_=>om,λhc=>om⟩
 split at h
 ·split at h
  ·cases h
  ·exact ⟨λhc=>om,λ_=>om⟩
 ·exact ⟨λhc=>om,λhc=>om⟩
theorem FL (h:TS o place nodes unique memo) (hn:o.length<=24) {x:GNode} {refs:List Int} {V:Asg->List Bool} (hk:0<=x.Kind/\x.Kind<=5) (hK:(x.Kind=0->x.K=0\/x.K=1)/\(x.Kind=4->1<=x.K/\x.K<=(x.Args.length:Int)))
  (ha:lq x.Kind x.Args.length=true) (hl:refs.length=x.Args.length) (h16:x.Args.length<=16) (hb:nodes.length<=549755813888) (hr:∀j:Nat,j<refs.length->Vd nodes (at' refs (j:Int))/\dn nodes (at' refs (j:Int))=λσ=>at' (V σ) (at' x.Args (j:Int))) :
  ∃nodes' unique' memo' r,After o place nodes nodes' unique' memo' r (λσ=>gn x (V σ)) 4294967296/\
   ∀Q:List GDNode->GMap Int->GMap Int->Int->Prop,Q nodes' unique' memo' r->fY x refs o place nodes unique memo Q:=by
 have w12:=pP hn
 have hc:∀σ,jQ (λj=>dn nodes (at' refs (j:Int)) σ) refs.length=cnt x (V σ) x.Args.length:=λσ=>by
  rw [yC,hl]
  exact uu _ λj hj=>by rw [(hr j om).2]
 have hr1:=λj hj=>(hr j hj).1
 rcases (by omega:x.Kind=0\/x.Kind=1\/x.Kind=2\/x.Kind=3\/x.Kind=5\/x.Kind=4) with k | k | k | k | k | k
 ·rcases hK.1 k with e | e
  ·refine ⟨nodes,unique,memo,0,⟨h,Pre.refl _,vd0,?_,by omega⟩,λQ hQ=>bg (λ_=>by rw [e];exact hQ) (λhf=>by simp [k] at hf)⟩
   rw [dn0];funext σ;simp [gn,mG,k,e]
  ·refine ⟨nodes,unique,memo,1,⟨h,Pre.refl _,vd1,?_,by omega⟩,λQ hQ=>bg (λ_=>by rw [e];exact hQ) (λhf=>by simp [k] at hf)⟩
   rw [dn1];funext σ;simp [gn,mG,k,e]
 ·have h1:x.Args.length=1:=by simpa [lq,k] using ha
  obtain ⟨n1,u1,m1,r,a,w⟩:=E7 h om (hr 0 om).1
  refine ⟨n1,u1,m1,r,⟨a.ts,a.pre,a.vd,?_,by have:=a.le;omega⟩,λQ hQ=>bg (λhf=>by simp [k] at hf) (λ_=>bg (λ_=>⟨by omega,w _ hQ⟩) (λhf=>by simp [k] at hf))⟩
  rw [a.dn];funext σ
  have:=hc σ
  rw [hl,h1] at this
  rw [gn,h1,<-this]
  simp only [mG,k,jQ]
  show _=((((0+if dn nodes (at' refs ((0:Nat):Int)) σ=true then 1 else 0):Nat):Int) == 0)
  cases dn nodes (at' refs ((0:Nat):Int)) σ<;>rfl
 ·obtain ⟨n1,u1,m1,r,a,w⟩:=za DT h hn (refs:=refs) (first:=1) (c:=true) om hb vd1 dn1 hr1
  refine ⟨n1,u1,m1,r,⟨a.ts,a.pre,a.vd,?_,a.le⟩,λQ hQ=>bg (λhf=>by simp [k] at hf) (λ_=>bg (λhf=>by simp [k] at hf) (λ_=>bg (λ_=>w Q hQ) (λhf=>by simp [k] at hf)))⟩
  rw [a.dn];funext σ
  rw [yu,hc σ,gn,hl]
  simp only [mG,k]
  rw [Bool.eq_iff_iff];simp;omega
 ·obtain ⟨n1,u1,m1,r,a,w⟩:=za FD h hn (refs:=refs) (first:=0) (c:=false) om hb vd0 dn0 hr1
  refine ⟨n1,u1,m1,r,⟨a.ts,a.pre,a.vd,?_,a.le⟩,λQ hQ=>bg (λhf=>by simp [k] at hf) (λ_=>bg (λhf=>by simp [k] at hf) (λ_=>bg (λhf=>by simp [k] at hf) (λ_=>bg (λ_=>w Q hQ) (λhf=>by simp [k] at hf))))⟩
  rw [a.dn];funext σ
  rw [Ao,hc σ,gn]
  simp only [mG,k]
  rw [Bool.eq_iff_iff];simp
 ·obtain ⟨n1,u1,m1,r,a,w⟩:=za DS h hn (refs:=refs) (first:=0) (c:=false) om hb vd0 dn0 hr1
  refine ⟨n1,u1,m1,r,⟨a.ts,a.pre,a.vd,?_,a.le⟩,λQ hQ=>bg (λhf=>by simp [k] at hf) (λ_=>bg (λhf=>by simp [k] at hf) (λ_=>bg (λhf=>by simp [k] at hf) (λ_=>bg (λhf=>by simp [k] at hf) (λ_=>bg (λ_=>w Q hQ) (λhf=>by simp [k] at hf)))))⟩
  rw [a.dn];funext σ
  rw [yt,hc σ,gn]
  simp only [mG,k]
  rw [Bool.eq_iff_iff]
  have:=Int.tmod_eq_emod_of_nonneg (a:=((cnt x (V σ) x.Args.length:Nat):Int)) (b:=2) om
  simp [this];omega
 ·have k4:=hK.2 k
  obtain ⟨kk,hkk⟩:∃kk:Nat,x.K=kk:=⟨x.K.toNat,by omega⟩
  obtain ⟨n1,u1,m1,r,a,w⟩:=Fg h hn (refs:=refs) (k:=kk) om om hb hr1
  refine ⟨n1,u1,m1,r,⟨a.ts,a.pre,a.vd,?_,a.le⟩,λQ hQ=>bg (λhf=>by simp [k] at hf) (λ_=>bg (λhf=>by simp [k] at hf) (λ_=>bg (λhf=>by simp [k] at hf) (λ_=>bg (λhf=>by simp [k] at hf) (λ_=>bg (λhf=>by simp [k] at hf) (λ_=>by rw [hkk];exact w Q hQ)))))⟩
  rw [a.dn];funext σ
  rw [hc σ,gn]
  simp only [mG,k,hkk]
  rw [Bool.eq_iff_iff];simp
end
end Go.Gg
namespace Go.Gg
def nq (f:GFormula) (o:List Int):Int:=if jd f≠0 then jd f else sN o f.Vars
def fF (f:GFormula):Asg->Bool:=λσ=>FV f (i5 σ f.Vars.toNat)
theorem oq {f:GFormula} {o:List Int}:nq f o=0↔FG f/\Or14 o/\(o.length:Int)=f.Vars:=by
 unfold nq
 constructor
 ·intro h
  split at h
  ·rename_i hc;exact absurd h hc
  ·rename_i hc
   have hl:(o.length:Int)=f.Vars:=by
    unfold sN at h
    split at h
    ·cases h
    split at h
    ·cases h
    ·rename_i hn;omega
   rw [<-hl] at h
   exact ⟨jv.1 om,AZ h,hl⟩
 ·rintro ⟨g,h,hl⟩
  rw [if_neg (by rw [jv.2 g];simp),<-hl]
  exact DP h
theorem FU {f:GFormula} {o:List Int} (h:Or14 o) (hl:(o.length:Int)=f.Vars):Dep (fF f) (jb o):=λσ σ' hh=>by
 unfold fF
 rw [uz λv hv=>hh v (h.all om)]
def n9 (x:GFormula) (i:Nat):Asg->Bool:=λσ=>at' (cq x (i5 σ x.Vars.toNat) x.Nodes.length) (x.Vars+i)
def oT (o:List Int) (F:Asg->Bool):Prop:=∀(place:List Int) (nodes:List GDNode) (unique memo:GMap Int) (r:Int) (Q:Bool->Prop),TS o place nodes unique memo->nodes.length<=1099511627776->Vd nodes r->dn nodes r=F->Q true->cc r 4096 o place nodes unique memo Q
theorem Bp {o place:List Int} {nodes:List GDNode} {unique memo:GMap Int} (h:TS o place nodes unique memo) (hb:nodes.length<=1099511627776) {r:Int} (hr:Vd nodes r) {Q:Bool->Prop} (hQ:∀b,Q b):cc r 4096 o place nodes unique memo Q:=by
 obtain ⟨s,c,w⟩:=Bq h hb o.length (o.length+1) (seen:=iF) (r:=r) (most:=4096) om hr om
 exact ⟨o.length+1,w _ (hQ _)⟩
section
variable {f:GFormula} {o:List Int}
theorem yJ {x:GFormula} {place:List Int} {Q:GDiagram->Option Int->Prop} (g:FG x) (hl:(o.length:Int)=x.Vars) (hS:(∀i:Nat,i<x.Nodes.length->oT o (n9 x i))\/Q noD (some 4)) (hT:TS o place [] iF iF) (hQ:Q (ux o (fF x)) none) :
  bh (σ:=Int×(List Int)×(GMap Int)×(List GDNode)) (0,(bu (x.Vars+(x.Nodes.length:Int)) 0),iF,[]) λ⟨x1,refs,x2,x3⟩ next1=>
     ah (decide (x1<x.Vars))
      (cV x1 o place x3 x2 iF λu u1 r3=>
      ((0:Int)<=x1/\x1<(refs.length:Int))/\
      rng (x1+1)/\
      next1 ((x1+1),(bq refs x1 r3),u1,u))
      (bh (σ:=Int×(List Int)×(GMap Int)×(GMap Int)×(List GDNode)) (0,refs,x2,iF,x3) λ⟨x4,refs1,x5,x6,x7⟩ next2=>
       ah (decide (x4<(x.Nodes.length:Int)))
        (((0:Int)<=x4/\x4<(x.Nodes.length:Int))/\
        bh (σ:=Int×(List Int)) (0,[]) λ⟨x8,args⟩ next3=>
         ah (decide (x8<(((at' x.Nodes x4).Args).length:Int)))
          (((0:Int)<=x8/\x8<(((at' x.Nodes x4).Args).length:Int))/\
          ((0:Int)<=(at' ((at' x.Nodes x4).Args) x8)/\(at' ((at' x.Nodes x4).Args) x8)<(refs1.length:Int))/\
          ((args++[(at' refs1 (at' ((at' x.Nodes x4).Args) x8))]).length*8<=140737488355328)/\
          rng (x8+1)/\
          next3 ((x8+1),(args++[(at' refs1 (at' ((at' x.Nodes x4).Args) x8))])))
          (rng (x.Vars+x4)/\
          ∃u2 u3 u4 r4,(fY (at' x.Nodes x4) args o place x7 x5 x6 λy1 y2 y3 y4=>y1=u2/\y2=u3/\y3=u4/\y4=r4)/\
          ((0:Int)<=(x.Vars+x4)/\(x.Vars+x4)<(refs1.length:Int))/\
          rng (x.Vars+x4)/\
          ((0:Int)<=(x.Vars+x4)/\(x.Vars+x4)<(refs1.length:Int))/\
          cc (at' (bq refs1 (x.Vars+x4) r4) (x.Vars+x4)) 4096 o place u2 u3 u4 λr5=>
          ah (!r5)
           (Q (⟨[],[],0⟩:GDiagram) (some 4))
           (rng (x4+1)/\
           next2 ((x4+1),(bq refs1 (x.Vars+x4) r4),u3,u4,u2))))
        (((0:Int)<=x.Top/\x.Top<(refs1.length:Int))/\
        cU (at' refs1 x.Top) o place x7 x5 x6 λr6=>
        Q r6 none)):=by
 have v0:=g.v0;have v24:=g.v24;have n128:=g.n128
 have hn:o.length<=24:=om
 obtain ⟨nv,hnv⟩:∃nv:Nat,x.Vars=nv:=⟨x.Vars.toNat,by omega⟩
 have hrl:((bu (x.Vars+(x.Nodes.length:Int)) (0:Int)).length:Int)=x.Vars+x.Nodes.length:=oH om
 refine dO (n:=nv) (λi (y:Int×List Int×GMap Int×List GDNode)=>(y.1=(i:Int)/\(y.2.1.length:Int)=x.Vars+x.Nodes.length/\y.2.2.2.length<=i/\TS o place y.2.2.2 y.2.2.1 iF)/\∀v:Nat,v<i->Vd y.2.2.2 (at' y.2.1 (v:Int))/\dn y.2.2.2 (at' y.2.1 (v:Int))=λσ=>σ v) (λy=>y.1) 0 (λi y hy=>by rw [hy.1.1];omega) ⟨⟨rfl,hrl,Nat.zero_le _,hT⟩,λv hv=>absurd hv om⟩ ?_ ?_
 ·rintro i ⟨x1,refs,u1,n1⟩ next hi ⟨⟨hx,hl1,hl2,hT1⟩,hI⟩ hn1
  dsimp only at hx hl1 hl2 hT1 hI
  subst hx
  obtain ⟨n2,u2,r2,a,w⟩:=EF hT1 om (v:=(i:Int)) om
  have:=a.le
  refine condT (λ_=>w _ ⟨by omega,by unfold rng;omega,hn1 _ ⟨⟨by dsimp only;omega,by dsimp only;rw [dJ];exact hl1,by dsimp only;omega,a.ts⟩,λv hv=>?_⟩⟩) (λhc=>absurd (show (i:Int)<x.Vars by omega) hc)
  dsimp only
  rw [gy om]
  split
  ·rename_i he;subst he
   exact ⟨a.vd,a.dn⟩
  ·have h1:=hI v om
   exact ⟨h1.1.pre a.pre,by rw [fC h1.1 a.pre,h1.2]⟩
 rintro ⟨x1,refs,u1,n1⟩ next ⟨⟨hx,hl1,hl2,hT1⟩,hI⟩
 dsimp only at hx hl1 hl2 hT1 hI
 subst hx
 refine condT (λhc=>absurd hc om) (λ_=>?_)
 refine dO (n:=x.Nodes.length) (λi (y:Int×List Int×GMap Int×GMap Int×List GDNode)=>(y.1=(i:Int)/\(y.2.1.length:Int)=x.Vars+x.Nodes.length/\y.2.2.2.2.length<=24+4294967296*i/\TS o place y.2.2.2.2 y.2.2.1 y.2.2.2.1)/\∀a:Nat,(a:Int)<x.Vars+i->Vd y.2.2.2.2 (at' y.2.1 (a:Int))/\dn y.2.2.2.2 (at' y.2.1 (a:Int))=λσ=>at' (cq x (i5 σ nv) i) (a:Int)) (λy=>y.1) 0
  (λi y hy=>by rw [hy.1.1];omega) ⟨⟨rfl,hl1,by dsimp only;omega,hT1⟩,λa ha=>?_⟩ ?_ ?_
 ·dsimp only
  have h1:=hI a om
  refine ⟨h1.1,?_⟩
  rw [h1.2]
  funext σ
  rw [gS om om,Int.toNat_natCast,wY om]
 ·rintro i ⟨x4,refs1,u5,m5,n5⟩ next2 hi ⟨⟨hx,hr1,hl5,hT5⟩,hA⟩ hn2
  dsimp only at hx hr1 hl5 hT5 hA
  subst hx
  have ng:=fh (g.node i hi)
  have hin:=rS g hi
  have ll:=ng.len
  have hi128:i<128:=om
  have hl6:n5.length<=549755813888:=Nat.le_trans hl5 om
  refine condT (λ_=>⟨by omega,?_⟩) (λhc=>absurd (show (i:Int)<_ by omega) hc)
  refine eI (n:=(at' x.Nodes (i:Int)).Args.length) (λj=>((j:Int),((at' x.Nodes (i:Int)).Args.take j).map λa=>at' refs1 a)) (λy=>y.1) 0 (λj=>by dsimp only;omega) rfl (λj next3 hj hn3=>?_) (λnext3=>?_)
  ·have h3:=hin _ (ss hj)
   dsimp only
   refine condT (λ_=>⟨by omega,by omega,by rw [gI,List.length_map,List.length_take];omega,by unfold rng;omega,?_⟩) (λhc=>absurd (show (j:Int)<_ by omega) hc)
   rw [mV hj,List.map_append] at hn3
   exact hn3
  ·refine condT (λhc=>absurd hc om) (λ_=>?_)
   rw [List.take_length]
   obtain ⟨n6,u6,m6,r6,a,w⟩:=FL hT5 hn (x:=at' x.Nodes (i:Int)) (refs:=(at' x.Nodes (i:Int)).Args.map λa=>at' refs1 a) (V:=λσ=>cq x (i5 σ nv) i) ⟨ng.k0,ng.k5⟩ (DZ (g.node i hi)) ng.args (by rw [List.length_map]) ll hl6 (λj hj=>by
    rw [List.length_map] at hj
    have h3:=hin _ (ss hj)
    rw [w6 hj]
    have:=hA (at' (at' x.Nodes (i:Int)).Args (j:Int)).toNat om
    rw [show (((at' (at' x.Nodes (i:Int)).Args (j:Int)).toNat:Nat):Int)=at' (at' x.Nodes (i:Int)).Args (j:Int) by omega] at this
    exact this)
   have l6:=a.le
   have hl7:n6.length<=24+4294967296*(i+1):=Nat.le_trans l6 om
   have eset:at' (bq refs1 (x.Vars+i) r6) (x.Vars+i)=r6:=by rw [i6 om om,if_pos rfl]
   refine ⟨by unfold rng;omega,n6,u6,m6,r6,w _ ⟨rfl,rfl,rfl,rfl⟩,by omega,by unfold rng;omega,by omega,?_⟩
   rw [eset]
   have hfin:∀P:Bool->Prop,P true->(Q noD (some 4)->P false)->cc r6 4096 o place n6 u6 m6 P:=λP h1 h2=>by
    rcases hS with hS | hS
    ·refine hS i hi _ _ _ _ _ _ a.ts (Nat.le_trans hl7 om) a.vd ?_ h1
     rw [a.dn]
     funext σ
     unfold n9
     rw [mq v0 hi,hnv,Int.toNat_natCast]
    ·exact Bp a.ts (Nat.le_trans hl7 om) a.vd λb=>match b with
      | false=>h2 hS
      | true=>h1
   refine hfin _ (bg (λhc=>by cases hc) (λ_=>⟨by unfold rng;omega,hn2 _ ⟨⟨by dsimp only;omega,by dsimp only;rw [dJ];exact hr1,hl7,a.ts⟩,λb hb=>?_⟩⟩)) (λh4=>bg (λ_=>h4) (λhc=>by cases hc))
   show Vd n6 (at' (bq refs1 (x.Vars+i) r6) (b:Int))/\dn n6 (at' (bq refs1 (x.Vars+i) r6) (b:Int))=_
   rw [i6 om om]
   by_cases hbi:(b:Int)=x.Vars+i
   ·rw [if_pos hbi,hbi]
    refine ⟨a.vd,?_⟩
    rw [a.dn]
    funext σ
    have hvl:((cq x (i5 σ nv) i).length:Int)=x.Vars+i:=by rw [jG];omega
    rw [cq,<-hvl,gz]
   ·rw [if_neg hbi]
    have h1:=hA b om
    refine ⟨h1.1.pre a.pre,?_⟩
    rw [fC h1.1 a.pre,h1.2]
    funext σ
    rw [iG (m:=i) om om (i+1) om]
 ·rintro ⟨x4,refs1,u5,m5,n5⟩ next2 ⟨⟨hx,hr1,hl5,hT5⟩,hA⟩
  dsimp only at hx hr1 hl5 hT5 hA
  subst hx
  have t0:=g.top0;have tt:=g.top
  have ht:=hA x.Top.toNat om
  rw [show ((x.Top.toNat:Nat):Int)=x.Top by omega] at ht
  refine condT (λhc=>absurd hc om) (λ_=>⟨by omega,Dm hT5 (Nat.le_trans hl5 om) ht.1 ?_⟩)
  rw [ht.2]
  have:(λσ=>at' (cq x (i5 σ nv) x.Nodes.length) x.Top)=fF x:=by
   funext σ;unfold fF FV;rw [hnv];rfl
  rw [this]
  exact hQ
theorem nI {Q:GDiagram->Option Int->Prop} (ht:rng f.Top) (h1:nq f o≠0->Q noD (some (nq f o))) (hn:nq f o=0->(∀i:Nat,i<f.Nodes.length->oT o (n9 f i))\/Q noD (some 4)) (h2:nq f o=0->Q (ux o (fF f)) none):ik f o Q:=by
 refine Ga ht (λhc=>?_) (λg r a hr hr0=>?_)
 ·have e:nq f o=jd f:=if_pos hc
  rw [e] at h1
  exact bg (λ_=>h1 hc) (λhf=>by cases hf)
 ·refine bg (λhf=>by cases hf) (λ_=>?_)
  have e:nq f o=sN o f.Vars:=if_neg (by rw [jv.2 g];simp)
  refine ve ?_
  by_cases h0:sN o f.Vars=0
  ·rw [h0]
   have hz:nq f o=0:=by rw [e,h0]
   obtain ⟨_,hO,hl⟩:=oq.1 hz
   have hS:=hn hz
   have hQ:=h2 hz
   have v0:=g.v0;have n128:=g.n128
   refine bg (λhf=>by cases hf) (λ_=>⟨λx=>FG x/\x.Vars=f.Vars/\(∀s,FV x s=FV f s)/\∀n:Nat,n<x.Nodes.length->∃k:Nat,k<f.Nodes.length/\∀s,at' (cq x s x.Nodes.length) (f.Vars+n)=at' (cq f s f.Nodes.length) (f.Vars+k),?_,?_⟩)
   ·refine condT (λ_=>F9 g (λx gx hv hf hN=>bg (λhc=>by cases hc) (λ_=>⟨gx,hv,hf,hN⟩))) (λhc=>?_)
    have htv:=hr0 om
    refine ⟨⟨g.v0,g.v24,by simp,λi hi=>by simp at hi,g.top0,by simpa using htv⟩,rfl,λs=>?_,λn hn=>by simp at hn⟩
    show at' (cq ⟨f.Vars,[],f.Top⟩ s 0) f.Top=at' (cq f s f.Nodes.length) f.Top
    rw [gS (f:=⟨f.Vars,[],f.Top⟩) g.top0 htv,gS g.top0 htv]
   ·rintro x ⟨gx,hv,hf,hN⟩
    have hSx:(∀i:Nat,i<x.Nodes.length->oT o (n9 x i))\/Q noD (some 4):=by
     rcases hS with hS | hS
     ·refine .inl λi hi=>?_
      obtain ⟨k,hk,hkv⟩:=hN i hi
      have e:n9 x i=n9 f k:=by funext σ;unfold n9;rw [hv,hkv]
      rw [e]
      exact hS k hk
     ·exact .inr hS
    refine GT hO (λplace hT=>⟨by unfold rng;have:=gx.v24;have:=gx.n128;have:=gx.v0;omega,⟨by have:=gx.v24;have:=gx.n128;have:=gx.v0;omega,by have:=gx.v24;have:=gx.n128;have:=gx.v0;omega,by have:=gx.v24;have:=gx.n128;have:=gx.v0;omega,by have:=gx.v24;have:=gx.n128;have:=gx.v0;omega⟩,yJ gx om hSx hT ?_⟩)
    have:fF x=fF f:=by funext σ;unfold fF;rw [hv,hf]
    rw [this]
    exact hQ
  ·have e2:ly (sN o f.Vars)=some (sN o f.Vars):=un h0
   rw [e2]
   rw [e] at h1
   exact bg (λ_=>h1 h0) (λhf=>by cases hf)
end
end Go.Gg
namespace Go.Gg
def nJ (o:List Int) (k:Nat) (σ ρ:Asg):Asg:=λv=>if dc o v<k then σ v else ρ v
def EE (o:List Int) (F:Asg->Bool) (c:Nat):Prop:=∀k,∃st:Asg->Nat,(∀σ,st σ<c)/\∀σ σ',st σ=st σ'->∀ρ,F (nJ o k σ ρ)=F (nJ o k σ' ρ)
def CF (o:List Int) (N:List GDNode) (F:Asg->Bool) (q:Nat):Prop:=∃σ,∀τ,den N τ q=F (nJ o (lvl o.length (dc o) N q) σ τ)
structure SN (o:List Int) (N:List GDNode) (F:Asg->Bool) (seen:GMap Bool) (K:List Nat):Prop where
 nd:K.Nodup
 n:seen.n=K.length
 mem:∀q:Int,2<=q->cD seen [q]=if q.toNat∈K then some true else none
 ok:∀q∈K,(2<=q/\q<2+N.length)/\CF o N F q
theorem C0 {a a' s s' c:Nat} (h:a*c+s=a'*c+s') (hs:s<c) (hs':s'<c):a=a'/\s=s':=by
 rcases Nat.lt_trichotomy a a' with h1 | h1 | h1
 ·have:=Nat.mul_le_mul_right c (show a+1<=a' from h1)
  rw [Nat.succ_mul] at this
  omega
 ·subst h1;exact ⟨rfl,by omega⟩
 ·have:=Nat.mul_le_mul_right c (show a'+1<=a from h1)
  rw [Nat.succ_mul] at this
  omega
section
variable {o place:List Int} {nodes:List GDNode} {unique memo:GMap Int} {F:Asg->Bool} {c:Nat}
theorem CF.kid (h:TS o place nodes unique memo) {r:Int} (hr:Vd nodes r) (h2:2<=r) (hc:CF o nodes F r.toNat) (b:Bool):CF o nodes F (bif b then (at' nodes (r-2)).Hi.toNat else (at' nodes (r-2)).Lo.toNat):=by
 obtain ⟨hx,hv,hlo,hhi,e,el,eh⟩:=h.at hr h2
 obtain ⟨σ,hσ⟩:=hc
 have hr2:=hr.2
 have hq:(bif b then (at' nodes (r-2)).Hi.toNat else (at' nodes (r-2)).Lo.toNat)<2+nodes.length:=by cases b<;>simp only [cond_true,cond_false]<;>omega
 have hlq:lvl o.length (dc o) nodes r.toNat<lvl o.length (dc o) nodes (bif b then (at' nodes (r-2)).Hi.toNat else (at' nodes (r-2)).Lo.toNat):=by cases b<;>simp only [cond_true,cond_false]<;>assumption
 have er:2+(r-2).toNat=r.toNat:=om
 have e':lvl o.length (dc o) nodes r.toNat=dc o (at' nodes (r-2)).Var.toNat:=e
 generalize hqq:(bif b then (at' nodes (r-2)).Hi.toNat else (at' nodes (r-2)).Lo.toNat)=q at hq hlq ⊢
 refine ⟨λw=>if dc o w<lvl o.length (dc o) nodes r.toNat then σ w else if w=(at' nodes (r-2)).Var.toNat then b else false,λτ=>?_⟩
 have h1:den nodes τ q=den nodes (nJ o (lvl o.length (dc o) nodes q) (λ_=>false) τ) q:=WT.dep h.ord.ord h.wt hq _ _ λw hw=>by
  have:=(h.ord.ord.mem.1 hw).2
  unfold nJ
  rw [if_neg om]
 have h3:=h.wt.den_cof hx (nJ o (lvl o.length (dc o) nodes q) (λ_=>false) τ) b
 rw [hqq,er] at h3
 rw [h1,<-h3,hσ]
 congr 1
 funext w
 simp only [nJ]
 by_cases hw:dc o w<lvl o.length (dc o) nodes r.toNat
 ·rw [if_pos hw,if_pos om,if_pos hw]
 ·rw [if_neg hw,if_neg hw]
  by_cases hwv:w=(at' nodes (r-2)).Var.toNat
  ·rw [hwv,eZ,if_pos rfl,if_pos om]
  ·rw [fU hwv,if_neg hwv]
   rfl
theorem SN.few (hT:TS o place nodes unique memo) (hF:EE o F c) {seen:GMap Bool} {K:List Nat} (h:SN o nodes F seen K):K.length<=o.length*c:=by
 let st:Nat->Asg->Nat:=λk=>Classical.choose (hF k)
 have st1:∀k σ,st k σ<c:=λk=>(Classical.choose_spec (hF k)).1
 have st2:∀k σ σ',st k σ=st k σ'->∀ρ,F (nJ o k σ ρ)=F (nJ o k σ' ρ):=λk=>(Classical.choose_spec (hF k)).2
 have hsg:∀q,∃σ:Asg,CF o nodes F q->∀τ,den nodes τ q=F (nJ o (lvl o.length (dc o) nodes q) σ τ):=λq=>by
  by_cases hc:CF o nodes F q
  ·obtain ⟨σ,hσ⟩:=hc
   exact ⟨σ,λ_=>hσ⟩
  ·exact ⟨λ_=>false,λhh=>absurd hh hc⟩
 let sg:Nat->Asg:=λq=>Classical.choose (hsg q)
 have sg1:∀q∈K,∀τ,den nodes τ q=F (nJ o (lvl o.length (dc o) nodes q) (sg q) τ):=λq hq=>Classical.choose_spec (hsg q) (h.ok q hq).2
 let code:Nat->Nat:=λq=>lvl o.length (dc o) nodes q*c+st (lvl o.length (dc o) nodes q) (sg q)
 have hlen:(K.map code).length=K.length:=List.length_map ..
 rw [<-hlen]
 refine n8 _ _ ?_ λx hx=>?_
 ·rw [List.Nodup,List.pairwise_map]
  refine List.Pairwise.imp_of_mem (λ{a b} ha hb hne hab=>hne ?_) h.nd
  have hab:lvl o.length (dc o) nodes a*c+st (lvl o.length (dc o) nodes a) (sg a)=lvl o.length (dc o) nodes b*c+st (lvl o.length (dc o) nodes b) (sg b):=hab
  obtain ⟨e1,e2⟩:=C0 hab (st1 _ _) (st1 _ _)
  refine WT.canon hT.ord.ord.lv hT.wt (h.ok a ha).1.2 (h.ok b hb).1.2 λτ=>?_
  rw [sg1 a ha,sg1 b hb,e1]
  rw [e1] at e2
  exact st2 _ _ _ e2 τ
 ·obtain ⟨q,hq,rfl⟩:=List.mem_map.1 hx
  have h1:=st1 (lvl o.length (dc o) nodes q) (sg q)
  have h2:=(h.ok q hq).1
  have hr:Vd nodes (q:Int):=⟨by omega,by omega⟩
  obtain ⟨hx,hv,_,_,e,_⟩:=hT.at hr om
  have h3:=(hT.ord.at_lev (v:=(at' nodes ((q:Int)-2)).Var.toNat) om).1
  have e':lvl o.length (dc o) nodes q=dc o (at' nodes ((q:Int)-2)).Var.toNat:=e
  have h4:=Nat.mul_le_mul_right c (show lvl o.length (dc o) nodes q+1<=o.length by omega)
  rw [Nat.succ_mul] at h4
  show lvl o.length (dc o) nodes q*c+st (lvl o.length (dc o) nodes q) (sg q)<_
  omega
theorem yI (h:TS o place nodes unique memo) (hb:nodes.length<=1099511627776):∀(k fu:Nat) {seen:GMap Bool} {K:List Nat} {r most:Int},k<fu->Vd nodes r->o.length<=k+lvO o nodes r->SN o nodes F seen K->CF o nodes F r.toNat->
  ∃(seen':GMap Bool) (K':List Nat),SN o nodes F seen' K'/\∀Q:GMap Bool->Prop,Q seen'->aN fu r most seen o place nodes unique memo Q:=by
 intro k
 induction k with
 | zero=>
  intro fu seen K r most hfu hr hk hs hc
  obtain ⟨f,rfl⟩:∃f,fu=f+1:=⟨fu-1,by omega⟩
  refine ⟨seen,K,hs,λQ hQ=>?_⟩
  rw [aN]
  refine condT (λ_=>hQ) (λhc=>?_)
  obtain ⟨_,x,_,_,e,_⟩:=h.at hr om
  have:=(h.ord.at_lev (v:=(at' nodes (r-2)).Var.toNat) om).1
  omega
 | succ k ih=>
  intro fu seen K r most hfu hr hk hs hc
  obtain ⟨f,rfl⟩:∃f,fu=f+1:=⟨fu-1,by omega⟩
  by_cases h2:r<2
  ·refine ⟨seen,K,hs,λQ hQ=>?_⟩
   rw [aN]
   exact condT (λ_=>hQ) (λhc=>absurd h2 hc)
  by_cases h3:Option.getD (cD seen [r]) false=true
  ·refine ⟨seen,K,hs,λQ hQ=>?_⟩
   rw [aN]
   exact condT (λ_=>hQ) (λ_=>bg (λ_=>hQ) (λhc=>by rw [h3] at hc;cases hc))
  by_cases h4:most<((GMap.n seen:Nat):Int)
  ·refine ⟨seen,K,hs,λQ hQ=>?_⟩
   rw [aN]
   exact condT (λ_=>hQ) (λ_=>bg (λ_=>hQ) (λ_=>condT (λ_=>hQ) (λhc=>absurd h4 hc)))
  obtain ⟨_,_,xl,xh,_,xlo,xhi⟩:=h.at hr om
  have hr2:=hr.2
  have hm:=hs.mem r om
  have hnot:r.toNat∉K:=λhin=>by rw [hm,if_pos hin] at h3;exact h3 rfl
  rw [if_neg hnot] at hm
  have hs1:SN o nodes F (mput seen [r] true) (r.toNat :: K):=by
   refine ⟨List.nodup_cons.2 ⟨hnot,hs.nd⟩,?_,λq hq=>?_,λq hq=>?_⟩
   ·have hm':seen.f [r]=none:=hm
    have:=hs.n
    show (bif (seen.f [r]).isSome then seen.n else seen.n+1)=_
    rw [hm',List.length_cons]
    show seen.n+1=_
    omega
   ·rw [ee]
    by_cases hqr:q=r
    ·rw [if_pos hqr,hqr,if_pos (by simp)]
    ·rw [if_neg hqr,hs.mem q hq]
     have:q.toNat∈r.toNat :: K↔q.toNat∈K:=by
      rw [List.mem_cons]
      exact ⟨λhh=>hh.resolve_left om,.inr⟩
     by_cases hin:q.toNat∈K
     ·rw [if_pos hin,if_pos (this.2 hin)]
     ·rw [if_neg hin,if_neg (λhh=>hin (this.1 hh))]
   ·rcases List.mem_cons.1 hq with rfl | hq
    ·exact ⟨⟨by omega,by omega⟩,hc⟩
    ·exact hs.ok q hq
  obtain ⟨s1,K1,c1,w1⟩:=ih f (seen:=mput seen [r] true) (r:=(at' nodes (r-2)).Lo) (most:=most) om ⟨xl.1,by omega⟩ om hs1 (CF.kid h hr om hc false)
  obtain ⟨s2,K2,c2,w2⟩:=ih f (seen:=s1) (r:=(at' nodes (r-2)).Hi) (most:=most) om ⟨xh.1,by omega⟩ om c1 (CF.kid h hr om hc true)
  refine ⟨s2,K2,c2,λQ hQ=>?_⟩
  rw [aN]
  exact condT (λhc=>absurd hc h2) (λ_=>bg (λhc=>absurd hc h3) (λ_=>condT (λhc=>absurd hc h4) (λ_=>⟨by unfold rng;omega,⟨by omega,by omega⟩,s1,w1 _ rfl,by unfold rng;omega,⟨by omega,by omega⟩,s2,w2 _ rfl,hQ⟩)))
end
theorem oT.fin {o:List Int} {F:Asg->Bool} {c:Nat} (hF:EE o F c) (hc:o.length*c<=4096):oT o F:=by
 intro place nodes unique memo r Q h hb hr hd hQ
 have hcf:CF o nodes F r.toNat:=by
  refine ⟨λ_=>false,λτ=>?_⟩
  have h1:den nodes τ r.toNat=den nodes (nJ o (lvl o.length (dc o) nodes r.toNat) (λ_=>false) τ) r.toNat:=WT.dep h.ord.ord h.wt hr.2 _ _ λw hw=>by
   have:=(h.ord.ord.mem.1 hw).2
   unfold nJ
   rw [if_neg om]
  rw [h1]
  exact congrFun hd _
 have h0:SN o nodes F (iF:GMap Bool) []:=⟨List.nodup_nil,rfl,λq _=>by rw [qA,if_neg (by simp)],λq hq=>by simp at hq⟩
 obtain ⟨s,K,hs,w⟩:=yI h hb o.length (o.length+1) (seen:=iF) (r:=r) (most:=4096) om hr om h0 hcf
 have h1:=hs.few h hF
 have h2:=hs.n
 refine ⟨o.length+1,w _ ?_⟩
 rw [decide_eq_true om]
 exact hQ
end Go.Gg
namespace Go.Gg
def ex (p:Nat->Rat):List Nat->(Asg->Rat)->Asg->Rat
 | [],g,σ=>g σ
 | v :: l,g,σ=>(1-p v)*ex p l g (cr σ v false)+p v*ex p l g (cr σ v true)
def b2q (b:Bool):Rat:=bif b then 1 else 0
theorem kF {σ:Asg} {a b:Nat} {x y:Bool} (h:a≠b):cr (cr σ a x) b y=cr (cr σ b y) a x:=by
 funext i
 by_cases h1:i=b
 ·have h2:i≠a:=λe=>h (e.symm.trans h1)
  rw [fU h2,h1,eZ,eZ]
 ·rw [fU h1]
  by_cases h2:i=a
  ·rw [h2,eZ,eZ]
  ·rw [fU h2,fU h2,fU h1]
section
variable {p:Nat->Rat}
theorem qO:∀(l:List Nat) {g g':Asg->Rat} {σ:Asg},(∀τ:Asg,(∀v,v∉l->τ v=σ v)->g τ=g' τ)->ex p l g σ=ex p l g' σ
 | [],_,_,_,h=>h _ λ_ _=>rfl
 | v :: l,g,g',σ,h=>by
  have e:∀b,ex p l g (cr σ v b)=ex p l g' (cr σ v b):=λb=>qO l λτ ht=>h τ λw hw=>by
   rw [List.mem_cons,not_or] at hw
   rw [ht w hw.2,fU hw.1]
  rw [ex,ex,e,e]
theorem nm (l:List Nat) {g g':Asg->Rat} {σ:Asg} (h:∀τ,g τ=g' τ):ex p l g σ=ex p l g' σ:=qO l λτ _=>h τ
theorem zl:∀(l l':List Nat) {g:Asg->Rat} {σ:Asg},ex p (l++l') g σ=ex p l (λτ=>ex p l' g τ) σ
 | [],_,_,_=>rfl
 | v :: l,l',g,σ=>by rw [List.cons_append,ex,ex,zl l l',zl l l']
theorem og:∀(l:List Nat) {c:Rat} {σ:Asg},ex p l (λ_=>c) σ=c
 | [],_,_=>rfl
 | v :: l,c,σ=>by rw [ex,og l,og l];grind
theorem rM:∀(l:List Nat) {g:Asg->Rat} {σ:Asg} {v:Nat} {b:Bool},v∉l->ex p l g (cr σ v b)=ex p l (λτ=>g (cr τ v b)) σ
 | [],_,_,_,_,_=>rfl
 | w :: l,g,σ,v,b,h=>by
  rw [List.mem_cons,not_or] at h
  rw [ex,ex,kF h.1,kF h.1,rM l h.2,rM l h.2]
theorem Eg {l:List Nat} {g:Asg->Rat} {σ:Asg} {v:Nat} (hv:v∉l) (h:∀τ b,g (cr τ v b)=g τ):ex p (v :: l) g σ=ex p l g σ:=by
 rw [ex,rM l hv,rM l hv,nm l λτ=>h τ false,nm l λτ=>h τ true]
 grind
theorem Eh {l l':List Nat} (h:l.Perm l'):l.Nodup->∀ {g:Asg->Rat} {σ:Asg},ex p l g σ=ex p l' g σ:=by
 induction h with
 | nil=>intro _ g σ;rfl
 | cons x _ ih=>
  intro hn g σ
  rw [ex,ex,ih (List.nodup_cons.1 hn).2,ih (List.nodup_cons.1 hn).2]
 | swap x y l=>
  intro hn g σ
  have hne:y≠x:=λe=>(List.nodup_cons.1 hn).1 (by rw [e];exact List.mem_cons_self)
  simp only [ex]
  rw [kF (σ:=σ) (x:=false) (y:=false) hne,kF (σ:=σ) (x:=false) (y:=true) hne,kF (σ:=σ) (x:=true) (y:=false) hne,kF (σ:=σ) (x:=true) (y:=true) hne]
  grind
 | trans h1 h2 ih1 ih2=>intro hn g σ;rw [ih1 hn,ih2 (h1.nodup_iff.1 hn)]
theorem Au:∀(l:List Nat) {g:Asg->Rat} {σ:Asg},(∀v∈l,0<=p v/\p v<=1)->(∀τ,0<=g τ/\g τ<=1)->0<=ex p l g σ/\ex p l g σ<=1
 | [],_,σ,_,h=>h σ
 | v :: l,g,σ,hp,h=>by
  have h1:=Au l (σ:=cr σ v false) (λw hw=>hp w (by simp [hw])) h
  have h2:=Au l (σ:=cr σ v true) (λw hw=>hp w (by simp [hw])) h
  have h0:=hp v (by simp)
  rw [ex]
  generalize ex p l g (cr σ v false)=a at h1 ⊢
  generalize ex p l g (cr σ v true)=b at h2 ⊢
  generalize p v=x at h0 ⊢
  have hx:0<=1-x:=by grind
  have a1:=Rat.mul_nonneg hx h1.1
  have a2:=Rat.mul_nonneg h0.1 h2.1
  have a3:=Rat.mul_le_mul_of_nonneg_left h1.2 hx
  have a4:=Rat.mul_le_mul_of_nonneg_left h2.2 h0.1
  constructor<;>grind
def ut (p:Nat->Rat):List Nat->Nat
 | []=>1
 | v :: l=>(p v).den*ut p l
theorem ur:∀l,0<ut p l
 | []=>Nat.one_pos
 | v :: l=>Nat.mul_pos (p v).den_pos (ur l)
theorem Ay {e:Nat}:∀l,(∀v∈l,RB e (p v))->ut p l<2^(e*l.length+1)
 | [],_=>by simp [ut]
 | v :: l,h=>by
  have h1:=Ay l λw hw=>h w (by simp [hw])
  have h2:=(h v (by simp)).2
  rw [ut,List.length_cons,show e*(l.length+1)+1=e+(e*l.length+1) by rw [Nat.mul_add];omega,Nat.pow_add]
  have:=ur (p:=p) l
  exact Nat.lt_of_lt_of_le (Nat.mul_lt_mul_of_pos_right h2 this) (Nat.mul_le_mul_left _ (Nat.le_of_lt h1))
theorem zk:∀(l:List Nat) {g:Asg->Rat} {σ:Asg},(∀τ,∃z:Int,g τ=z)->∃z:Int,ex p l g σ*(ut p l:Rat)=z
 | [],_,σ,h=>by
  obtain ⟨z,hz⟩:=h σ
  exact ⟨z,by rw [ex,hz,ut];simp⟩
 | v :: l,g,σ,h=>by
  obtain ⟨a,ha⟩:=zk l (σ:=cr σ v false) h
  obtain ⟨b,hb⟩:=zk l (σ:=cr σ v true) h
  have hne:((p v).den:Rat)≠0:=by
   have:=(p v).den_nz
   exact_mod_cast this
  have hd:p v*((p v).den:Rat)=((p v).num:Rat):=calc
   p v*((p v).den:Rat)=((p v).num:Rat) / ((p v).den:Rat)*((p v).den:Rat):=by rw [<-Rat.mkRat_eq_div,Rat.mkRat_self]
   _=((p v).num:Rat):=Rat.div_mul_cancel hne
  refine ⟨((p v).den-(p v).num)*a+(p v).num*b,?_⟩
  rw [ex,ut]
  have e:((1-p v)*ex p l g (cr σ v false)+p v*ex p l g (cr σ v true))*(((p v).den*ut p l:Nat):Rat)=(((p v).den:Rat)-p v*((p v).den:Rat))*(ex p l g (cr σ v false)*(ut p l:Rat))+(p v*((p v).den:Rat))*(ex p l g (cr σ v true)*(ut p l:Rat)):=by
   rw [Rat.natCast_mul];grind
  rw [e,ha,hb,hd]
  push_cast
  rfl
theorem Gc {x:Rat} {D e:Nat} {z:Int} (h0:0<=x) (h1:x<=1) (hz:x*(D:Rat)=z) (hD:0<D) (he:D<2^e):RB e x:=by
 have hDr:(0:Rat)<(D:Rat):=by exact_mod_cast hD
 have hx:x=mkRat z D:=by
  rw [Rat.mkRat_eq_div]
  show x=(z:Rat) / (D:Rat)
  rw [<-hz]
  grind
 have z0:0<=z:=by
  have:(0:Rat)<=(z:Rat):=by rw [<-hz];exact Rat.mul_nonneg h0 (Rat.le_of_lt hDr)
  exact_mod_cast this
 have z1:z<=(D:Int):=by
  have:(z:Rat)<=((D:Int):Rat):=by
   rw [<-hz]
   have:=Rat.mul_le_mul_of_nonneg_right h1 (Rat.le_of_lt hDr)
   rw [Rat.one_mul] at this
   exact this
  exact_mod_cast this
 rw [hx]
 exact rb om om he
theorem zr (b:Bool):0<=b2q b/\b2q b<=1:=by cases b<;>decide
theorem Et (b:Bool):∃z:Int,b2q b=z:=match b with
 | false=>⟨0,rfl⟩
 | true=>⟨1,rfl⟩
theorem GM {l:List Nat} {f:Asg->Bool} {σ:Asg} {e:Nat} (hp:∀v∈l,0<=p v/\p v<=1) (he:∀v∈l,RB e (p v)):RB (e*l.length+1) (ex p l (λτ=>b2q (f τ)) σ):=by
 obtain ⟨h1,h2⟩:=Au l (σ:=σ) hp λτ=>zr (f τ)
 obtain ⟨z,hz⟩:=zk (p:=p) l (σ:=σ) λτ=>Et (f τ)
 exact Gc h1 h2 hz (ur l) (Ay l he)
variable {n:Nat} {lev:Nat->Nat} {ord:List Nat} {N:List GDNode}
theorem wO (hO:OrdL n lev ord) (h:WT n lev N) {r:Nat} (hr:r<2+N.length) {σ:Asg}:∀l0,l0<=lvl n lev N r->ex p (ord.drop l0) (λτ=>b2q (den N τ r)) σ=ex p ord (λτ=>b2q (den N τ r)) σ
 | 0,_=>by rw [List.drop_zero]
 | l0+1,hl=>by
  have hn:=WT.lvl_le hO.lv h (r:=r)
  have hlen:=hO.len
  have hg:ord[l0]? = some ord[l0]:=List.getElem?_eq_getElem om
  obtain ⟨hv,hlv⟩:=hO.at_ _ _ hg
  have hd:=hO.drop hv
  rw [hlv] at hd
  have hnot:ord[l0]∉ord.drop (l0+1):=λhm=>by have:=(hO.mem.1 hm).2;omega
  have:=wO hO h hr (σ:=σ) l0 om
  rw [hd,Eg hnot λτ b=>by rw [h.den_set hr om τ]] at this
  exact this
def pr (p:Nat->Rat) (N:List GDNode) (ord:List Nat) (r:Nat):Rat:=ex p ord (λτ=>b2q (den N τ r)) (λ_=>false)
theorem DN:pr p N ord 0=0:=by
 unfold pr
 rw [nm ord (g':=λ_=>0) λτ=>by rw [gu];rfl,og]
theorem Fz:pr p N ord 1=1:=by
 unfold pr
 rw [nm ord (g':=λ_=>1) λτ=>by rw [i2];rfl,og]
theorem DO (hO:OrdL n lev ord) (h:WT n lev N) {i:Nat} {x:GDNode} (hx:N[i]? = some x):pr p N ord (2+i)=(1-p x.Var.toNat)*pr p N ord x.Lo.toNat+p x.Var.toNat*pr p N ord x.Hi.toNat:=by
 have nd:=h.nd i x hx
 have hi:i<N.length:=(List.getElem?_eq_some_iff.1 hx).1
 have hv:x.Var.toNat<n:=by have:=nd.var;omega
 have hlv:lvl n lev N (2+i)=lev x.Var.toNat:=nf hx
 have hnot:x.Var.toNat∉ord.drop (lev x.Var.toNat+1):=λhm=>by have:=(hO.mem.1 hm).2;omega
 have h1:=nd.lo;have h2:=nd.hi;have h3:=nd.llo;have h4:=nd.lhi
 unfold pr
 rw [<-wO hO h (r:=2+i) om (lev x.Var.toNat) om,hO.drop hv,ex,rM _ hnot,rM _ hnot]
 rw [nm (g:=λτ=>b2q (den N (cr τ x.Var.toNat false) (2+i))) (g':=λτ=>b2q (den N τ x.Lo.toNat)) _ λτ=>by rw [h.den_cof hx τ false];rfl]
 rw [nm (g:=λτ=>b2q (den N (cr τ x.Var.toNat true) (2+i))) (g':=λτ=>b2q (den N τ x.Hi.toNat)) _ λτ=>by rw [h.den_cof hx τ true];rfl]
 rw [<-wO hO h (r:=x.Lo.toNat) om (lev x.Var.toNat+1) om,<-wO hO h (r:=x.Hi.toNat) om (lev x.Var.toNat+1) om]
end
end Go.Gg
namespace Go.Gg
theorem EZ {α:Type} [Inhabited α] {l:List α} {i:Nat} (h:i<l.length):at' l (i:Int)=l[i]:=by
 unfold at'
 rw [List.getD_eq_getElem?_getD,Int.toNat_natCast,List.getElem?_eq_getElem h]
 rfl
section
variable {lt:Int->Int->Bool}
end
end Go.Gg
namespace Go.Gg
structure Bij (n:Nat) (p a:Nat->Nat):Prop where
 lt:∀v,v<n->p v<n
 lt':∀k,k<n->a k<n
 ap:∀v,v<n->a (p v)=v
 pa:∀k,k<n->p (a k)=k
end Go.Gg
namespace Go.Gg
section
variable {d:GDiagram}
theorem GO {e:Int} {A B:Prop} (h0:e≠0->A) (h1:e=0->B):ah (Option.isSome (ly e)) A B:=by
 by_cases h:e=0
 ·rw [h];exact bg (λhc=>by cases hc) (λ_=>h1 h)
 ·exact bg (λ_=>h0 h) (λhc=>by rw [Bj h] at hc;cases hc)
end
end Go.Gg
namespace Go.Gg
def oc (n:Nat):List Int:=(List.range n).map λi:Nat=>(i:Int)
theorem ye {n:Nat}:(oc n).length=n:=by simp [oc]
theorem yi {n:Nat} {x:Int}:x∈oc n↔0<=x/\x<n:=by
 simp only [oc,List.mem_map,List.mem_range]
 constructor
 ·rintro ⟨i,h,rfl⟩;omega
 ·intro h;exact ⟨x.toNat,by omega,by omega⟩
theorem Bb {n:Nat}:oc (n+1)=oc n++[(n:Int)]:=by simp [oc,List.range_succ]
section
variable {o:List Int}
end
end Go.Gg
namespace Go.Gg
section
variable {o a b:List Int}
end
end Go.Gg
namespace Go.Gg
section
variable {f:GFormula}
def pW (f:GFormula):Nat->Int->List Int×List Bool->List Int×List Bool
 | 0,_,s=>s
 | fu+1,arg,s=>if at' s.2 arg=true then s else if arg<f.Vars then (s.1++[arg],bq s.2 arg true) else (at' f.Nodes (arg-f.Vars)).Args.foldl (λs x=>pW f fu x s) (s.1,bq s.2 arg true)
structure VI (f:GFormula) (s:List Int×List Bool):Prop where
 len:(s.2.length:Int)=f.Vars+f.Nodes.length
 nd:s.1.Nodup
 mem:∀v,v∈s.1↔(0<=v/\v<f.Vars)/\at' s.2 v=true
theorem A3 {l:List Int} {n:Int} (h:l.Nodup) (hm:∀v∈l,0<=v/\v<n):(l.length:Int)<=max n 0:=by
 have h1:=n8 n.toNat (l.map Int.toNat) (by
  rw [List.Nodup,List.pairwise_map]
  exact List.Pairwise.imp_of_mem (λ{a b} ha hb hab he=>hab (by have:=hm a ha;have:=hm b hb;omega)) h) (λx hx=>by
  obtain ⟨v,hv,rfl⟩:=List.mem_map.1 hx
  have:=hm v hv
  omega)
 rw [List.length_map] at h1
 omega
theorem VI.few (g:FG f) {s:List Int×List Bool} (h:VI f s):s.1.length<=24:=by
 have:=A3 h.nd (n:=f.Vars) (λv hv=>((h.mem v).1 hv).1)
 have:=g.v24
 have:=g.v0
 omega
theorem zC (g:FG f):∀(fu:Nat) (arg:Int) (s:List Int×List Bool) (Q:List Int->List Bool->Prop),0<=arg->arg<f.Vars+f.Nodes.length->arg<fu->VI f s->(VI f (pW f fu arg s)->Q (pW f fu arg s).1 (pW f fu arg s).2)->
  cy fu arg f.Vars f.Nodes f.Top s.1 s.2 Q
 | 0,_,_,_,h0,_,h2,_,_=>om
 | fu+1,arg,s,Q,h0,h1,h2,hv,hQ=>by
  have hlen:=hv.len
  have hfew:=hv.few g
  have hv0:=g.v0
  have hv24:=g.v24
  rw [cy]
  refine ⟨⟨h0,by omega⟩,bg (λhs=>?_) (λhs=>⟨⟨h0,by omega⟩,condT (λhc=>?_) (λhc=>?_)⟩)⟩
  ·rw [pW,if_pos hs] at hQ
   exact hQ hv
  ·have hs':¬at' s.2 arg=true:=by rw [hs];simp
   rw [pW,if_neg hs',if_pos hc] at hQ
   refine ⟨by rw [List.length_append,List.length_singleton];omega,hQ ⟨by rw [dJ];exact hlen,?_,λv=>?_⟩⟩
   ·refine List.nodup_append.2 ⟨hv.nd,by simp,λa ha b hb he=>?_⟩
    rw [List.mem_singleton] at hb
    subst hb
    subst he
    exact hs' ((hv.mem a).1 ha).2
   ·rw [List.mem_append,List.mem_singleton,hv.mem v]
    constructor
    ·rintro (⟨h5,h6⟩ | rfl)
     ·refine ⟨h5,?_⟩
      rw [i6 ⟨h0,by omega⟩ h5.1]
      split
      ·rfl
      ·exact h6
     ·exact ⟨⟨h0,hc⟩,by rw [i6 ⟨h0,by omega⟩ h0,if_pos rfl]⟩
    ·rintro ⟨h5,h6⟩
     rw [i6 ⟨h0,by omega⟩ h5.1] at h6
     split at h6
     ·rename_i he;exact .inr he
     ·exact .inl ⟨h5,h6⟩
  ·have hs':¬at' s.2 arg=true:=by rw [hs];simp
   rw [pW,if_neg hs',if_neg hc] at hQ
   obtain ⟨i,hi⟩:∃i:Nat,arg-f.Vars=i:=⟨(arg-f.Vars).toNat,by omega⟩
   have hil:i<f.Nodes.length:=om
   rw [hi] at hQ ⊢
   have hargs:=rS g hil
   have h16:=(fh (g.node i hil))
   refine ⟨by unfold rng;have:=g.n128;omega,⟨by omega,by omega⟩,?_⟩
   generalize hA:(at' f.Nodes (i:Int)).Args=A at hQ hargs ⊢
   have hA16:A.length<=16:=by rw [<-hA];exact h16.len
   have hv1:VI f (s.1,bq s.2 arg true):=by
    refine ⟨by rw [dJ];exact hlen,hv.nd,λv=>?_⟩
    rw [hv.mem v]
    constructor
    ·rintro ⟨h5,h6⟩
     refine ⟨h5,?_⟩
     rw [i6 ⟨h0,by omega⟩ h5.1]
     split
     ·rfl
     ·exact h6
    ·rintro ⟨h5,h6⟩
     rw [i6 ⟨h0,by omega⟩ h5.1,if_neg om] at h6
     exact ⟨h5,h6⟩
   refine dO (n:=A.length) (λj y=>y=((j:Int),((A.take j).foldl (λs x=>pW f fu x s) (s.1,bq s.2 arg true)).1,((A.take j).foldl (λs x=>pW f fu x s) (s.1,bq s.2 arg true)).2)/\VI f ((A.take j).foldl (λs x=>pW f fu x s) (s.1,bq s.2 arg true)))
    (λy=>y.1) 0 (λj y hy=>by rw [hy.1];omega) ⟨rfl,hv1⟩ ?_ ?_
   ·rintro j _ next hj ⟨rfl,hI⟩ hn
    have ha:=hargs _ (ss hj)
    have e:(A.take (j+1)).foldl (λs x=>pW f fu x s) (s.1,bq s.2 arg true)=pW f fu (at' A (j:Int)) ((A.take j).foldl (λs x=>pW f fu x s) (s.1,bq s.2 arg true)):=by
     rw [mV hj,List.foldl_append]
     rfl
    refine condT (λ_=>⟨⟨by omega,by omega⟩,zC g fu _ _ _ ha.1 om om hI (λhV=>⟨?_,by unfold rng;omega,hn _ ⟨?_,by rw [e];exact hV⟩⟩)⟩) (λhc=>absurd (show (j:Int)<A.length by omega) hc)
    ·have h3:=hV.len
     have h4:=hI.len
     omega
    ·rw [e]
     rfl
   ·rintro _ next ⟨rfl,hI⟩
    refine condT (λhc=>by first | omega | (dsimp only at hc;omega)) (λ_=>?_)
    have e:A.take A.length=A:=List.take_of_length_le (Nat.le_refl _)
    rw [e] at hI ⊢
    exact hQ hI
def mT (f:GFormula):List Int×List Bool:=pW f (f.Vars+(f.Nodes.length:Int)).toNat f.Top ([],bu (f.Vars+(f.Nodes.length:Int)) false)
def dV (f:GFormula):List Int:=(mT f).1++(oc f.Vars.toNat).filter λv=>!(at' (mT f).2 v)
theorem AU {n v:Int}:at' (bu n false) v=false:=by
 unfold at' bu
 rw [List.getD_eq_getElem?_getD,List.getElem?_replicate]
 split<;>rfl
theorem VI0 (g:FG f):VI f ([],bu (f.Vars+(f.Nodes.length:Int)) false):=
 ⟨by have:=g.v0;rw [oH om],List.nodup_nil,λv=>by rw [AU];simp⟩
theorem Ek (g:FG f) {Q:List Int->List Bool->Prop} (hQ:VI f (mT f)->Q (dV f) (mT f).2):mf f Q:=by
 have hv0:=g.v0
 have hv24:=g.v24
 have hn:=g.n128
 have ht0:=g.top0
 have ht:=g.top
 refine ⟨by unfold rng;omega,⟨by omega,by omega,by omega,by omega⟩,(f.Vars+(f.Nodes.length:Int)).toNat,zC g _ f.Top ([],bu (f.Vars+(f.Nodes.length:Int)) false) _ ht0 ht om (VI0 g) (λhV=>?_)⟩
 have hlen:=hV.len
 have hfew:=hV.few g
 refine ⟨by have:=(VI0 g).len;dsimp only at this;omega,?_⟩
 obtain ⟨n,hvn⟩:∃n:Nat,f.Vars=n:=⟨f.Vars.toNat,by omega⟩
 refine eI (n:=n) (λi=>((i:Int),(mT f).1++(oc i).filter λv=>!(at' (mT f).2 v))) (λy=>y.1) 0 (λi=>by first | omega | (dsimp only;omega)) (by simp [oc];rfl) ?_ ?_
 ·intro i next hi hn1
  have hf:=List.length_filter_le (λv=>!(at' (mT f).2 v)) (oc i)
  rw [ye] at hf
  have hl2:(mT f).1.length<=24:=hfew
  have hl3:((mT f).2.length:Int)=f.Vars+f.Nodes.length:=hlen
  rw [Bb,List.filter_append] at hn1
  refine condT (λ_=>⟨⟨by omega,by show (i:Int)<((mT f).2.length:Int);omega⟩,bg (λhb=>?_) (λhb=>?_)⟩) (λhc=>absurd om hc)
  ·have hb':(!at' (mT f).2 (i:Int))=true:=hb
   rw [List.filter_cons_of_pos (by exact hb'),List.filter_nil,<-List.append_assoc] at hn1
   refine ⟨by simp only [List.length_append,List.length_singleton];omega,by unfold rng;omega,?_⟩
   simpa using hn1
  ·have hb':¬(!at' (mT f).2 (i:Int))=true:=by
    intro hc
    have hc2:(!at' (mT f).2 (i:Int))=false:=hb
    rw [hc2] at hc
    cases hc
   rw [List.filter_cons_of_neg (by exact hb'),List.filter_nil,List.append_nil] at hn1
   exact ⟨by unfold rng;omega,by simpa using hn1⟩
 ·intro next
  refine condT (λhc=>by first | omega | (dsimp only at hc;omega)) (λ_=>?_)
  have:=hQ hV
  unfold dV at this
  rw [hvn,Int.toNat_natCast] at this
  exact this
theorem vX (h:VI f (mT f)) {v:Int}:v∈dV f↔0<=v/\v<f.Vars:=by
 unfold dV
 rw [List.mem_append,List.mem_filter,yi,h.mem v]
 cases hb:at' (mT f).2 v with
 | true=>simp
 | false=>simp;omega
theorem yz (h:VI f (mT f)):(dV f).Nodup:=by
 refine List.nodup_append.2 ⟨h.nd,?_,λa ha b hb he=>?_⟩
 ·refine List.Nodup.sublist List.filter_sublist ?_
  unfold oc
  rw [List.Nodup,List.pairwise_map]
  exact List.Pairwise.imp (λh hc=>h om) (List.nodup_range (n:=f.Vars.toNat))
 ·subst he
  have h1:=((h.mem a).1 ha).2
  have h2:=(List.mem_filter.1 hb).2
  rw [h1] at h2
  cases h2
theorem D5 {n:Nat}:(oc n).Nodup:=by
 unfold oc
 rw [List.Nodup,List.pairwise_map]
 exact List.Pairwise.imp (λh hc=>h om) (List.nodup_range (n:=n))
theorem zo (h:VI f (mT f)):(dV f).Perm (oc f.Vars.toNat):=
 (List.perm_ext_iff_of_nodup (yz h) D5).2 (λv=>by rw [vX h,yi];omega)
theorem EG (ht:rng f.Top) {Q:List Int->Option Int->Prop} (h0:jd f≠0->Q [] (some (jd f))) (h1:FG f->VI f (mT f)->Q (dV f) none):mg f Q:=by
 refine eO ht (GO (λhc=>by rw [un hc];exact h0 hc) (λhz=>?_))
 have g:=jv.1 hz
 exact Ek g (h1 g)
end
end Go.Gg
namespace Go.Gg
structure PL (l:List GRat) (p:Nat->Rat) (n:Nat):Prop where
 len:l.length=n
 rp:∀v:Nat,v<n->Rp 129 (at' l (v:Int)) (p v)
 pos:∀v,v<n->0<=p v/\p v<=1
section
variable {n:Nat} {lev:Nat->Nat} {ord:List Nat} {N:List GDNode} {p:Nat->Rat} {l:List GRat}
theorem Cf (hO:OrdL n lev ord) (hp:PL l p n) (hn:n<=24) {r:Nat}:Rp 4000 (bj (pr p N ord r)) (pr p N ord r):=by
 have hm:∀v∈ord,v<n:=λv hv=>by
  have:v∈ord.drop 0:=by rw [List.drop_zero];exact hv
  exact (hO.mem.1 this).1
 refine .of ((GM (λv hv=>hp.pos v (hm v hv)) λv hv=>(hp.rp v (hm v hv)).2.2).mono ?_) (by decide)
 have:=hO.len
 omega
def prL (p:Nat->Rat) (N:List GDNode) (ord:List Nat) (i:Nat):List GRat:=(List.range i).map λj=>bj (pr p N ord (2+j))
theorem zZ {i:Nat}:(prL p N ord i).length=i:=by simp [prL]
theorem FB {i j:Nat} (h:j<i):at' (prL p N ord i) (j:Int)=bj (pr p N ord (2+j)):=by simp [prL,at',List.getD_eq_getElem?_getD,h]
theorem xQ {i:Nat}:prL p N ord i++[bj (pr p N ord (2+i))]=prL p N ord (i+1):=by simp [prL,List.range_succ]
theorem FF {i:Nat} {r:Int} {Q:GRat->Prop} (hi:i<=1000000000) (h0:0<=r) (h1:r<2+i) (h:Q (bj (pr p N ord r.toNat))):mY (prL p N ord i) r Q:=by
 refine condT (λh2=>?_) (λh2=>?_)
 ·refine GC (by unfold rng;omega) λ_=>?_
  rcases (show r=0\/r=1 by omega) with rfl | rfl
  ·rw [show Int.toNat 0=0 from rfl,DN] at h;exact h
  ·rw [show Int.toNat 1=1 from rfl,Fz] at h;exact h
 ·refine ⟨by unfold rng;omega,⟨by omega,by rw [zZ];omega⟩,?_⟩
  have e:r-2=((r.toNat-2:Nat):Int):=om
  rw [e,FB om,show 2+(r.toNat-2)=r.toNat by omega]
  exact h
theorem DY (hO:OrdL n lev ord) (h:WT n lev N) (hp:PL l p n) (hn:n<=24) {i:Nat} {x:GDNode} (hx:N[i]? = some x) (hi:i<=1000000000) {Q:GRat->Prop} (hQ:Q (bj (pr p N ord (2+i)))):iK x l (prL p N ord i) Q:=by
 have nd:=h.nd i x hx
 have h1:=nd.lo;have h2:=nd.hi;have hv:=nd.var
 have hl:=hp.len
 have hpr:=hp.rp x.Var.toNat om
 rw [show ((x.Var.toNat:Nat):Int)=x.Var by omega] at hpr
 refine ⟨⟨by omega,by omega⟩,GB (by unfold rng;omega) λr1=>Fs r1 hpr (by decide) λr2=>⟨_,FF hi h1.1 h1.2 rfl,CI r2 (Cf hO hp hn) (by decide) λr3=>⟨_,FF hi h2.1 h2.2 rfl,CI hpr (Cf hO hp hn) (by decide) λr4=>Dg r3 r4 (by decide) λ_=>?_⟩⟩⟩
 rw [show ((1:Int):Rat)=1 from rfl,<-DO hO h hx]
 exact hQ
theorem BH {d:GDiagram} (hO:OrdL n lev ord) (h:WT n lev d.Nodes) (hp:PL l p n) (hn:n<=24) (hl:d.Nodes.length<=16777216) {Q:List GRat->Prop} (hQ:Q (prL p d.Nodes ord d.Nodes.length)):jg d l Q:=by
 refine ⟨⟨by omega,by omega,by omega,by omega⟩,?_⟩
 refine eI (n:=d.Nodes.length) (λi=>((i:Int),prL p d.Nodes ord i)) (λy=>y.1) 0 (λi=>by simp) (by rfl) (λi next hi hn1=>?_) (λnext=>?_)
 ·have hx:=C_ (N:=d.Nodes) hi
  refine condT (λ_=>⟨⟨by omega,by omega⟩,DY hO h hp hn hx om ⟨?_,by unfold rng;omega,?_⟩⟩) (λhc=>absurd (show (i:Int)<(d.Nodes.length:Int) by omega) hc)
  ·rw [xQ,zZ];omega
  ·rw [xQ];exact hn1
 ·exact condT (λhc=>absurd hc om) (λ_=>hQ)
theorem AS {vars:Int} {Q:Option Int->Prop} (hp:PL l p n) (hn:n<=24) (hv:vars=n) (hb:∀i:Nat,i<n->fG (at' l (i:Int))=true) (hQ:Q none):jT l vars Q:=by
 have hl:=hp.len
 refine fl (λhc=>absurd hc om) (λ_=>?_)
 unfold bz bI
 refine kM (λ_=>False) om (λj next hj _ hnx=>?_) (λ_=>?_)
 ·refine ⟨⟨by omega,by omega⟩,nA (hp.rp j om).1 ?_⟩
  rw [hb j om]
  exact bg (λhc=>by cases hc) (λ_=>hnx (λhf=>hf))
 ·exact bg (λhc=>by cases hc) (λ_=>hQ)
end
def exF (p:Nat->Rat) (f:GFormula):Rat:=ex p (List.range f.Vars.toNat) (λτ=>b2q (fF f τ)) (λ_=>false)
theorem CY {f:GFormula} (g:FG f) (h:VI f (mT f)):Or14 (dV f)/\((dV f).length:Int)=f.Vars/\(jb (dV f)).Perm (List.range f.Vars.toNat):=by
 have hpm:=zo h
 have hlen:(dV f).length=f.Vars.toNat:=by rw [hpm.length_eq,ye]
 have v0:=g.v0;have v24:=g.v24
 have hnd:=yz h
 refine ⟨⟨by omega,λi hi=>?_,λi j hi hj he=>?_⟩,by omega,?_⟩
 ·have:=(vX h).1 (ss hi)
  omega
 ·rw [EZ hi,EZ hj] at he
  have hpw:=List.pairwise_iff_getElem.1 hnd
  rcases Nat.lt_trichotomy i j with h1 | h1 | h1
  ·exact absurd he (hpw i j hi hj h1)
  ·exact h1
  ·exact absurd he.symm (hpw j i hj hi h1)
 ·have:=hpm.map Int.toNat
  have e:(oc f.Vars.toNat).map Int.toNat=List.range f.Vars.toNat:=by
   unfold oc
   rw [List.map_map]
   exact (List.map_congr_left (g:=id) λa _=>rfl).trans (List.map_id _)
  rw [e] at this
  exact this
theorem E6 {f:GFormula} {l:List GRat} {p:Nat->Rat} {Q:GRat->Option Int->Prop} (g:FG f) (ht:rng f.Top) (hp:PL l p f.Vars.toNat) (hb:∀i:Nat,i<f.Vars.toNat->fG (at' l (i:Int))=true)
  (hB:∀o:List Int,Or14 o->(o.length:Int)=f.Vars->∀Q':GDiagram->Option Int->Prop,(Q ⟨false,[],[]⟩ (some 4)->Q' noD (some 4))->Q' (ux o (fF f)) none->ik f o Q') (hQ:Rp 4000 (bj (exF p f)) (exF p f)->Q (bj (exF p f)) none):lY f l Q:=by
 have v0:=g.v0;have v24:=g.v24
 refine eO ht ?_
 rw [jv.2 g]
 refine bg (λhc=>by cases hc) (λ_=>AS hp om om hb (bg (λhc=>by cases hc) (λ_=>EG ht (λhc=>absurd (jv.2 g) hc) λ_ hV=>bg (λhc=>by cases hc) (λ_=>?_))))
 obtain ⟨hO,hl,hpm⟩:=CY g hV
 refine hB _ hO hl _ (λh4=>bg (λ_=>h4) (λhc=>by cases hc)) (bg (λhc=>by cases hc) (λ_=>?_))
 have hln:(dV f).length=f.Vars.toNat:=om
 have hp':PL l p (dV f).length:=by rw [hln];exact hp
 obtain ⟨w1,_,w3,w4⟩:=q_ hO.ord WT.nil (FU (f:=f) hO hl)
 have hlen:=uJ (jb (dV f)) (fF f) []
 have h24:2^(jb (dV f)).length<=16777216:=pP (by rw [go];exact hO.le)
 have h24':(ux (dV f) (fF f)).Nodes.length<=16777216:=by
  show (dd (jb (dV f)) (fF f) []).1.length<=16777216
  rw [List.length_nil,Nat.zero_add] at hlen
  omega
 have hroot:pr p (ux (dV f) (fF f)).Nodes (jb (dV f)) (ux (dV f) (fF f)).Root.toNat=exF p f:=by
  unfold pr exF
  rw [Eh hpm hO.nodup]
  refine nm _ λτ=>?_
  congr 1
  exact w4 τ
 have hRp:=Cf (N:=(ux (dV f) (fF f)).Nodes) (r:=(ux (dV f) (fF f)).Root.toNat) hO.ord hp' hO.le
 rw [hroot] at hRp
 refine ⟨_,BH hO.ord w1 hp' hO.le h24' rfl,_,FF (Nat.le_trans h24' (by decide)) (by show (0:Int)<=((dd (jb (dV f)) (fF f) []).2:Int);omega) (by show (((dd (jb (dV f)) (fF f) []).2:Nat):Int)<2+((dd (jb (dV f)) (fF f) []).1.length:Int);omega) rfl,?_⟩
 rw [hroot]
 exact hQ hRp
end Go.Gg
namespace Go.Gg
structure WrM (m:GMission):Prop where
 lf:m.Phases.length<=9223372036854775807
 lp:m.P.length<=9223372036854775807
 lr:∀i:Nat,i<m.P.length->(at' m.P (i:Int)).length<=9223372036854775807
 top:∀j:Nat,j<m.Phases.length->rng (at' m.Phases (j:Int)).Top
 wd:∀i:Nat,i<m.P.length->WrL (at' m.P (i:Int))
def FrM (m:GMission):Prop:=∀i:Nat,i<m.P.length->∀j:Nat,j<(at' m.P (i:Int)).length->Fr (at' (at' m.P (i:Int)) (j:Int))/\RB 129 (b6 (at' (at' m.P (i:Int)) (j:Int)))
def evt (m:GMission):Int:=(at' m.Phases 0).Vars
def phE (m:GMission) (j:Nat):Int:=if jd (at' m.Phases (j:Int))≠0 then jd (at' m.Phases (j:Int)) else if (at' m.Phases (j:Int)).Vars≠evt m then 11 else 0
def l5 (m:GMission) (i:Nat):Int:=if (at' m.P (i:Int)).length≠m.Phases.length then 11 else if ∃j:Nat,j<(at' m.P (i:Int)).length/\fG (at' (at' m.P (i:Int)) (j:Int))=false then 3 else 0
def fp (m:GMission):Int:=
 if m.Phases.length=0 then 11 else if 6<m.Phases.length then 4 else if jq (phE m) m.Phases.length≠0 then jq (phE m) m.Phases.length
 else if 24<evt m*(m.Phases.length:Int) then 4 else if (m.P.length:Int)≠evt m then 11 else jq (l5 m) m.P.length
def nG (m:GMission) (l:List Int):Int:=
 if fp m≠0 then fp m else if l.length≠m.P.length then 11 else if ∃i:Nat,i<l.length/\(at' l (i:Int)<0\/(m.Phases.length:Int)<at' l (i:Int)) then 3 else 0
theorem wQ {m:GMission} {j:Nat} (_:j<m.Phases.length) (h:phE m j=0):FG (at' m.Phases (j:Int))/\(at' m.Phases (j:Int)).Vars=evt m:=by
 unfold phE at h
 split at h
 ·rename_i h1;exact absurd h h1
 ·rename_i h1
  have h1:jd (at' m.Phases (j:Int))=0:=Classical.not_not.1 h1
  split at h
  ·cases h
  ·rename_i h2;exact ⟨jv.1 h1,Classical.not_not.1 h2⟩
theorem qP {e:Int} (h:e≠0):ly e=some e:=by unfold ly;rw [if_neg h]
theorem u_ {l:List GRat} {Q:Bool->Prop} (ll:l.length<=9223372036854775807) (hf:∀j:Nat,j<l.length->Fr (at' l (j:Int))) (h:Q (decide (∃j:Nat,j<l.length/\fG (at' l (j:Int))=false))) :
  bn l Q:=by
 unfold bn bL
 refine kM (λj=>fG (at' l (j:Int))=false) ll (λj next hj hI hnx=>?_) (λhall=>?_)
 ·refine ⟨⟨by omega,by omega⟩,nA (hf j hj) (bg (λhb=>?_) (λhb=>?_))⟩
  ·have e:decide ((0:Int)<=(j:Int))=true:=decide_eq_true om
   show Q (decide ((0:Int)<=(j:Int)))
   rw [e]
   rw [decide_eq_true ⟨j,hj,by simpa using hb⟩] at h
   exact h
  ·exact hnx (by simpa using hb)
 ·show Q (decide ((0:Int)<=-1))
  rw [decide_eq_false (by rintro ⟨j,hj,hb⟩;exact hall j hj hb)] at h
  exact h
theorem iT {m:GMission} {Q:Option Int->Prop} (w:WrM m) (hf:FrM m) (h:Q (ly (fp m))):e_ m Q:=by
 unfold fp at h
 refine bO (λh0=>?_) (λh0=>?_)
 ·rw [if_pos om] at h;exact h
 rw [if_neg om] at h
 refine condT (λh6=>?_) (λh6=>?_)
 ·rw [if_pos om] at h;exact h
 rw [if_neg om] at h
 refine ⟨⟨by omega,by omega⟩,?_⟩
 refine kM (λj=>phE m j≠0) w.lf (λj next hj hI hnx=>?_) (λhall=>?_)
 ·refine ⟨⟨by omega,by omega⟩,eO (w.top j hj) ?_⟩
  have hz:∀i,i<j->phE m i=0:=λi hi=>Classical.not_not.1 (hI i hi)
  have hit:phE m j≠0->Q (ly (phE m j)):=λhne=>by
   rw [gt hz hne _ hj,if_pos hne] at h;exact h
  rw [dD]
  refine condT (λhe=>?_) (λhe=>fl (λ(hv:(at' m.Phases (j:Int)).Vars≠evt m)=>?_) (λ(hv:(at' m.Phases (j:Int)).Vars=evt m)=>hnx ?_))
  ·have e:phE m j=jd (at' m.Phases (j:Int)):=by unfold phE;rw [if_pos he]
   rw [<-e];exact hit (by rw [e];exact he)
  ·have e:phE m j=11:=by unfold phE;rw [if_neg he,if_pos hv]
   have:=hit (by rw [e];decide)
   rw [e] at this;exact this
  ·unfold phE
   rw [if_neg he,if_neg (λhh=>hh hv)]
   simp
 have hz:∀i,i<m.Phases.length->phE m i=0:=λi hi=>Classical.not_not.1 (hall i hi)
 rw [if_neg (by rw [b9.2 hz];simp)] at h
 obtain ⟨g0,_⟩:=wQ (m:=m) (j:=0) om (hz 0 om)
 have e0:evt m=(at' m.Phases 0).Vars:=rfl
 have v1:0<=evt m/\evt m<=24:=⟨g0.v0,g0.v24⟩
 have hm:0<=evt m*(m.Phases.length:Int)/\evt m*(m.Phases.length:Int)<=24*6:=⟨Int.mul_nonneg v1.1 om,Int.mul_le_mul v1.2 om om om⟩
 rw [<-e0]
 refine ⟨by unfold rng;omega,condT (λh24=>?_) (λh24=>fl (λhp=>?_) (λhp=>?_))⟩
 ·rw [if_pos h24] at h;exact h
 ·rw [if_neg h24,if_pos hp] at h;exact h
 rw [if_neg h24,if_neg (λhh=>hh hp)] at h
 refine kM (λi=>l5 m i≠0) w.lp (λi next hi hI hnx=>?_) (λhall2=>?_)
 ·have hz:∀k,k<i->l5 m k=0:=λk hk=>Classical.not_not.1 (hI k hk)
  have hit:l5 m i≠0->Q (ly (l5 m i)):=λhne=>by
   rw [gt hz hne _ hi] at h;exact h
  refine ⟨⟨by omega,by omega⟩,fl (λhl=>?_) (λhl=>?_)⟩
  ·have e:l5 m i=11:=by unfold l5;rw [if_pos om]
   have:=hit (by rw [e];decide)
   rw [e] at this;exact this
  ·refine u_ (w.lr i hi) (λj hj=>(hf i hi j hj).1) (bg (λhb=>?_) (λhb=>hnx ?_))
   ·have e:l5 m i=3:=by unfold l5;rw [if_neg om,if_pos (of_decide_eq_true hb)]
    have:=hit (by rw [e];decide)
    rw [e] at this;exact this
   ·unfold l5
    rw [if_neg om,if_neg (of_decide_eq_false hb)]
    simp
 ·rw [b9.2 λi hi=>Classical.not_not.1 (hall2 i hi)] at h
  exact h
theorem iN {m:GMission} {Q:Int->Prop} (h0:0<m.Phases.length) (h:Q (evt m)):cN m Q:=⟨⟨by omega,by omega⟩,h⟩
theorem gh {m:GMission} {K:Int->Prop} (h0:0<m.Phases.length) (h:K (evt m)):eJ (cN m) K:=⟨_,iN h0 rfl,h⟩
theorem l8 {m:GMission} {Q:Int->Prop} (w:WrM m) (hf:FrM m) (h:Q (fp m)):gX m Q:=by
 unfold fp at h
 refine bO (λh0=>?_) (λh0=>?_)
 ·rw [if_pos om] at h;exact fl (λ_=>h) (λhh=>by cases hh)
 rw [if_neg om] at h
 refine condT (λh6=>?_) (λh6=>?_)
 ·rw [if_pos om] at h;exact fl (λ_=>h) (λhh=>by cases hh)
 rw [if_neg om] at h
 have hp0:0<m.Phases.length:=om
 refine kM (λj=>phE m j≠0) w.lf (λj next hj hI hnx=>?_) (λhall=>?_)
 ·refine ⟨⟨by omega,by omega⟩,uV (w.top j hj) ?_⟩
  have hz:∀i,i<j->phE m i=0:=λi hi=>Classical.not_not.1 (hI i hi)
  have hit:phE m j≠0->Q (phE m j):=λhne=>by
   rw [gt hz hne _ hj,if_pos hne] at h;exact h
  refine fl (λhe=>fl (λ_=>?_) (λhh=>absurd hh he)) (λhe=>⟨⟨by omega,by omega⟩,gh hp0 (fl (λhv=>fl (λ_=>?_) (λhh=>by cases hh)) (λhv=>hnx ?_))⟩)
  ·have e:phE m j=jd (at' m.Phases (j:Int)):=by unfold phE;rw [if_pos he]
   rw [<-e];exact hit (by rw [e];exact he)
  ·have e:phE m j=11:=by unfold phE;rw [if_neg (λhh=>hh he),if_pos hv]
   have:=hit (by rw [e];decide)
   rw [e] at this;exact this
  ·unfold phE
   rw [if_neg (λhh=>hh he),if_neg (λhh=>hh hv)]
   simp
 have hz:∀i,i<m.Phases.length->phE m i=0:=λi hi=>Classical.not_not.1 (hall i hi)
 rw [if_neg (by rw [b9.2 hz];simp)] at h
 obtain ⟨g0,_⟩:=wQ (m:=m) (j:=0) om (hz 0 om)
 have v1:0<=evt m/\evt m<=24:=⟨g0.v0,g0.v24⟩
 have hm:0<=evt m*(m.Phases.length:Int)/\evt m*(m.Phases.length:Int)<=24*6:=⟨Int.mul_nonneg v1.1 om,Int.mul_le_mul v1.2 om om om⟩
 refine fl (λhh=>absurd rfl hh) (λ_=>gh hp0 ⟨by unfold rng;omega,condT (λh24=>?_) (λh24=>gh hp0 (fl (λhp=>?_) (λhp=>?_)))⟩)
 ·rw [if_pos h24] at h;exact h
 ·rw [if_neg h24,if_pos hp] at h;exact h
 rw [if_neg h24,if_neg (λhh=>hh hp)] at h
 refine kM (λi=>l5 m i≠0) w.lp (λi next hi hI hnx=>?_) (λhall2=>?_)
 ·have hz:∀k,k<i->l5 m k=0:=λk hk=>Classical.not_not.1 (hI k hk)
  have hit:l5 m i≠0->Q (l5 m i):=λhne=>by
   rw [gt hz hne _ hi] at h;exact h
  refine ⟨⟨by omega,by omega⟩,fl (λhl=>?_) (λhl=>?_)⟩
  ·have e:l5 m i=11:=by unfold l5;rw [if_pos om]
   have:=hit (by rw [e];decide)
   rw [e] at this;exact this
  ·have lr:=w.lr i hi
   refine dO (n:=(at' m.P (i:Int)).length) (λj y=>y=(j:Int)/\∀k:Nat,k<j->fG (at' (at' m.P (i:Int)) (k:Int))=true) (λy=>y) 0 (λj y h=>by rw [h.1,Int.add_zero]) ⟨rfl,λk hk=>absurd hk om⟩ ?_ ?_
   ·rintro j _ next2 hj ⟨rfl,hI2⟩ hn2
    refine ⟨⟨by omega,by omega⟩,condT (λhc=>⟨⟨by omega,by omega⟩,⟨by omega,by omega⟩,wq (hf i hi j hj).1 (hf i hi j hj).2 (by decide) (bg (λhb=>?_) (λhb=>?_))⟩) (λhc=>absurd (show (j:Int)<((at' m.P (i:Int)).length:Int) by omega) hc)⟩
    ·have e:l5 m i=3:=by unfold l5;rw [if_neg om,if_pos ⟨j,hj,by simpa using hb⟩]
     have:=hit (by rw [e];decide)
     rw [e] at this;exact this
    ·refine ⟨by unfold rng;omega,hn2 _ ⟨by omega,λk hk=>?_⟩⟩
     rcases Nat.lt_or_ge k j with h1 | h1
     ·exact hI2 k h1
     ·obtain rfl:k=j:=om
      simpa using hb
   ·rintro _ next2 ⟨rfl,hI2⟩
    refine ⟨⟨by omega,by omega⟩,condT (λhc=>absurd hc om) (λ_=>hnx ?_)⟩
    unfold l5
    rw [if_neg om,if_neg (by rintro ⟨k,hk,hb⟩;rw [hI2 k hk] at hb;cases hb)]
    simp
 ·rw [b9.2 λi hi=>Classical.not_not.1 (hall2 i hi)] at h
  exact h
theorem FP {m:GMission} (h:fp m=0):(0<m.Phases.length/\m.Phases.length<=6)/\(∀j:Nat,j<m.Phases.length->FG (at' m.Phases (j:Int))/\(at' m.Phases (j:Int)).Vars=evt m)/\(0<=evt m/\evt m*(m.Phases.length:Int)<=24)/\(m.P.length:Int)=evt m/\
  ∀i:Nat,i<m.P.length->(at' m.P (i:Int)).length=m.Phases.length/\∀j:Nat,j<m.Phases.length->fG (at' (at' m.P (i:Int)) (j:Int))=true:=by
 unfold fp at h
 split at h
 ·cases h
 rename_i h0
 split at h
 ·cases h
 rename_i h6
 split at h
 ·rename_i h1;exact absurd h h1
 rename_i h1
 have hz:=b9.1 (Classical.not_not.1 h1)
 split at h
 ·cases h
 rename_i h24
 split at h
 ·cases h
 rename_i hp
 have hr:=b9.1 h
 refine ⟨⟨by omega,by omega⟩,λj hj=>wQ hj (hz j hj),⟨?_,by omega⟩,Classical.not_not.1 hp,λi hi=>?_⟩
 ·obtain ⟨g0,e⟩:=wQ (m:=m) (j:=0) om (hz 0 om)
  rw [<-e];exact g0.v0
 ·have:=hr i hi
  unfold l5 at this
  split at this
  ·cases this
  ·rename_i hl
   have hl:(at' m.P (i:Int)).length=m.Phases.length:=Classical.not_not.1 hl
   split at this
   ·cases this
   ·rename_i he
    refine ⟨hl,λj hj=>?_⟩
    cases hb:fG (at' (at' m.P (i:Int)) (j:Int)) with
    | true=>rfl
    | false=>exact absurd ⟨j,by omega,hb⟩ he
theorem je {m:GMission} {l:List Int} {Q:Option Int->Prop} (w:WrM m) (hf:FrM m) (ll:l.length<=9223372036854775807) (h:Q (ly (nG m l))):eG m l Q:=by
 unfold nG at h
 refine iT w hf ?_
 rw [dD]
 refine condT (λhe=>?_) (λhe=>fl (λhl=>?_) (λhl=>?_))
 ·rw [if_pos he] at h;exact h
 ·rw [if_neg he,if_pos om] at h;exact h
 rw [if_neg he,if_neg om] at h
 refine kM (λi=>at' l (i:Int)<0\/(m.Phases.length:Int)<at' l (i:Int)) ll (λi next hi hI hnx=>?_) (λhall=>?_)
 ·refine ⟨⟨by omega,by omega⟩,λy=>y=decide (at' l (i:Int)<0\/(m.Phases.length:Int)<at' l (i:Int)),?_,?_⟩
  ·exact condT (λhc=>(decide_eq_true (Or.inl hc)).symm) (λhc=>decide_eq_decide.2 ⟨Or.inr,λhh=>hh.resolve_left hc⟩)
  ·rintro _ rfl
   refine condT (λhb=>?_) (λhb=>hnx hb)
   rw [if_pos ⟨i,hi,hb⟩] at h;exact h
 ·rw [if_neg (by rintro ⟨i,hi,hb⟩;exact hall i hi hb)] at h
  exact h
end Go.Gg
namespace Go.Gg
structure OkM (m:GMission):Prop where
 w:WrM m
 f:FrM m
 k0:0<m.Phases.length
 k6:m.Phases.length<=6
 fg:∀j:Nat,j<m.Phases.length->FG (at' m.Phases (j:Int))/\(at' m.Phases (j:Int)).Vars=evt m
 ev:(m.P.length:Int)=evt m
 n24:m.P.length*m.Phases.length<=24
 row:∀i:Nat,i<m.P.length->(at' m.P (i:Int)).length=m.Phases.length
 prob:∀i:Nat,i<m.P.length->∀j:Nat,j<m.Phases.length->fG (at' (at' m.P (i:Int)) (j:Int))=true
theorem okM {m:GMission} (w:WrM m) (hf:FrM m) (h:fp m=0):OkM m:=by
 obtain ⟨h1,h2,h3,h4,h5⟩:=FP h
 refine ⟨w,hf,h1.1,h1.2,h2,h4,?_,λi hi=>(h5 i hi).1,λi hi=>(h5 i hi).2⟩
 have e:((m.P.length*m.Phases.length:Nat):Int)=evt m*(m.Phases.length:Int):=by rw [<-h4];simp
 omega
theorem OkM.p24 {m:GMission} (o:OkM m):m.P.length<=24:=by
 have h1:=o.n24
 have h2:m.P.length*1<=m.P.length*m.Phases.length:=Nat.mul_le_mul_left _ o.k0
 omega
def OkH (m:GMission) (l:List Int):Prop:=l.length=m.P.length/\∀i:Nat,i<l.length->0<=at' l (i:Int)/\at' l (i:Int)<=(m.Phases.length:Int)
theorem okH {m:GMission} {l:List Int} (h:nG m l=0):fp m=0/\OkH m l:=by
 unfold nG at h
 split at h
 ·rename_i h1;exact absurd h h1
 rename_i h1
 split at h
 ·cases h
 rename_i h2
 split at h
 ·cases h
 rename_i h3
 refine ⟨Classical.not_not.1 h1,Classical.not_not.1 h2,λi hi=>?_⟩
 have:¬(at' l (i:Int)<0\/(m.Phases.length:Int)<at' l (i:Int)):=λhh=>h3 ⟨i,hi,hh⟩
 omega
theorem Gt {m:GMission} {l:List Int} (h:fp m=0) (hl:OkH m l):nG m l=0:=by
 unfold nG
 rw [if_neg (λhh=>hh h),if_neg (λhh=>hh hl.1),if_neg]
 rintro ⟨i,hi,hh⟩
 have:=hl.2 i hi
 omega
def uj (l:List Int) (j:Int) (i:Nat):Bool:=decide (at' l (i:Int)<=j)
def iX (l:List Int) (j:Int):Nat:=i5 (uj l j) l.length
theorem sH {l:List Int} {j:Int} {Q:Int->Prop} (hl:l.length<=60) (h:Q (iX l j:Int)):jW l j Q:=by
 refine eI (n:=l.length) (λi=>((i5 (uj l j) i:Int),(i:Int))) (λy=>y.2) 0 (λi=>by simp) rfl ?_ ?_
 ·intro i next hi hn
  refine condT (λhc=>⟨⟨by omega,by omega⟩,condT (λhb=>⟨Fv om,by unfold rng;omega,?_⟩) (λhb=>⟨by unfold rng;omega,?_⟩)⟩) (λhc=>absurd (show (i:Int)<(l.length:Int) by omega) hc)
  ·rw [DR om]
   rw [i5,if_pos (show uj l j i=true from decide_eq_true hb)] at hn
   exact hn
  ·rw [i5,if_neg (show ¬uj l j i=true by simp [uj,hb])] at hn
   exact hn
 ·intro next
  exact condT (λhc=>absurd hc om) (λ_=>h)
theorem yw {l:List Int} {j:Int}:iX l j<2^l.length:=oQ _
def hZ (g:Nat->Bool):Nat->Nat
 | 0=>0
 | n+1=>if hZ g n=n then (if g n=true then n else n+1) else hZ g n
theorem nl {g:Nat->Bool}:∀n,hZ g n<=n
 | 0=>Nat.le_refl _
 | n+1=>by
  have:=nl (g:=g) n
  rw [hZ]
  split
  ·split<;>omega
  ·omega
theorem oO {g:Nat->Bool}:∀n,(∀i,i<n->g i=false)->hZ g n=n
 | 0,_=>rfl
 | n+1,h=>by rw [hZ,if_pos (oO n λi hi=>h i om),if_neg (by rw [h n om];simp)]
theorem uh {g:Nat->Bool} {i:Nat} (h:∀j,j<i->g j=false) (hg:g i=true):∀n,i<n->hZ g n=i
 | 0,hn=>absurd hn om
 | n+1,hn=>by
  rw [hZ]
  rcases Nat.lt_or_ge i n with h1 | h1
  ·rw [uh h hg n h1,if_neg om]
  ·obtain rfl:i=n:=om
   rw [if_pos (oO i h),if_pos hg]
theorem iC {g:Nat->Bool}:∀ {n i:Nat},i<hZ g n->g i=false
 | 0,i,h=>by simp [hZ] at h
 | n+1,i,h=>by
  rw [hZ] at h
  split at h
  ·rename_i h1
   split at h
   ·exact iC (n:=n) om
   ·rename_i h2
    rcases Nat.lt_or_ge i n with h3 | h3
    ·exact iC (n:=n) om
    ·obtain rfl:i=n:=om
     simpa using h2
  ·exact iC (n:=n) h
theorem tc {g:Nat->Bool}:∀ {n:Nat},hZ g n<n->g (hZ g n)=true
 | 0,h=>by simp [hZ] at h
 | n+1,h=>by
  rw [hZ] at h ⊢
  split
  ·rename_i h1
   rw [if_pos h1] at h
   split
   ·rename_i h2;exact h2
   ·rename_i h2;rw [if_neg h2] at h;omega
  ·rename_i h1
   have:=nl (g:=g) n
   exact tc (n:=n) om
def bF (m:GMission) (l:List Int):Nat:=hZ (λj=>FV (at' m.Phases (j:Int)) (iX l (j:Int))) m.Phases.length
theorem En {f:GFormula} {s:Nat} (g:FG f) (hs:s<2^f.Vars.toNat):vt f (s:Int)=0:=by
 unfold vt
 rw [if_neg (λhh=>hh (jv.2 g)),if_neg]
 rintro (hh | hh)
 ·omega
 ·have e:(2^f.Vars.toNat:Int)=((2^f.Vars.toNat:Nat):Int):=by simp
  rw [e] at hh
  omega
theorem OkM.two {m:GMission} (o:OkM m) {l:List Int} (hl:OkH m l) {j:Nat} (hj:j<m.Phases.length) (k:Int):iX l k<2^(at' m.Phases (j:Int)).Vars.toNat:=by
 have h1:=yw (l:=l) (j:=k)
 have h2:(at' m.Phases (j:Int)).Vars.toNat=l.length:=by rw [(o.fg j hj).2,<-o.ev,hl.1];simp
 rw [h2];exact h1
theorem OkM.small {m:GMission} (o:OkM m) {l:List Int} (hl:OkH m l) (k:Int):iX l k<4294967296:=by
 have h1:=yw (l:=l) (j:=k)
 have h2:=Ch (n:=l.length) (by rw [hl.1];exact o.p24)
 omega
theorem tW {m:GMission} {l:List Int} {Q:Int->Option Int->Prop} (w:WrM m) (hf:FrM m) (ll:l.length<=9223372036854775807) (h1:nG m l≠0->Q 0 (some (nG m l))) (h2:nG m l=0->Q (bF m l:Int) none):kT m l Q:=by
 refine je w hf ll ?_
 rw [dD]
 refine condT (λhe=>?_) (λhe=>?_)
 ·rw [qP he];exact h1 he
 have he:=Classical.not_not.1 he
 obtain ⟨hm,hh⟩:=okH he
 have o:=okM w hf hm
 have h2:=h2 he
 refine kM (λj=>FV (at' m.Phases (j:Int)) (iX l (j:Int))=true) w.lf (λj next hj hI hnx=>?_) (λhall=>?_)
 ·refine ⟨⟨by omega,by omega⟩,_,sH (by rw [hh.1];have:=o.p24;omega) rfl,?_⟩
  refine ⟨_,_,sV (w.top j hj) (λhc=>absurd (En (o.fg j hj).1 (o.two hh hj _)) hc) (λ_=>⟨rfl,rfl⟩),?_⟩
  refine bg (λhc=>by cases hc) (λ_=>bg (λhb=>?_) (λhb=>hnx (by rw [Int.toNat_natCast] at hb;rw [hb];simp)))
  rw [Int.toNat_natCast] at hb
  have e:bF m l=j:=uh (g:=λj=>FV (at' m.Phases (j:Int)) (iX l (j:Int))) (λk hk=>by simpa using hI k hk) hb _ hj
  rw [e] at h2;exact h2
 ·have e:bF m l=m.Phases.length:=oO _ λk hk=>by simpa using hall k hk
  rw [e] at h2;exact h2
theorem nk {i n K:Nat} (hi:i<n):i*K+K<=n*K:=by
 have:=Nat.mul_le_mul_right K hi
 rwa [Nat.succ_mul] at this
def pq (m:GMission) (i j:Nat):Rat:=b6 (at' (at' m.P (i:Int)) (j:Int))
def fq (m:GMission) (l:List Int) (i j:Nat):Rat:=if (j:Int)<at' l (i:Int) then 1-pq m i j else pq m i j
def wI (m:GMission) (l:List Int) (q:Rat) (i:Nat):Nat->Rat
 | 0=>q
 | k+1=>wI m l q i k*fq m l i k
def cW (m:GMission) (l:List Int) (i:Nat):Nat:=min ((at' l (i:Int)).toNat+1) m.Phases.length
def wM (m:GMission) (l:List Int):Nat->Rat
 | 0=>1
 | i+1=>wI m l (wM m l i) i (cW m l i)
theorem OkM.pRp {m:GMission} (o:OkM m) {i j:Nat} (hi:i<m.P.length) (hj:j<m.Phases.length):Rp 129 (at' (at' m.P (i:Int)) (j:Int)) (pq m i j):=
 ⟨(o.f i hi j (by rw [o.row i hi];exact hj)).1,rfl,(o.f i hi j (by rw [o.row i hi];exact hj)).2⟩
theorem Cm:((1:Int):Rat)=1:=rfl
theorem Dx {α:Type} {l:List α} {a:Int} (_:0<=a) (h1:a<=(l.length:Int)):(cB l 0 a).length=a.toNat:=by
 simp [cB];omega
theorem Ft {α:Type} [Inhabited α] {l:List α} {a:Int} {j:Nat} (_:0<=a) (_:a<=(l.length:Int)) (hj:j<a.toNat):at' (cB l 0 a) (j:Int)=at' l (j:Int):=by
 simp [at',cB,List.getD_eq_getElem?_getD,hj]
theorem sI {m:GMission} {l:List Int} {Q:GRat->Option Int->Prop} (w:WrM m) (hf:FrM m) (ll:l.length<=9223372036854775807) (h1:nG m l≠0->Q (⟨false,[],[]⟩:GRat) (some (nG m l)))
  (h2:nG m l=0->Rp 100000 (bj (wM m l l.length)) (wM m l l.length)->Q (bj (wM m l l.length)) none):jX m l Q:=by
 refine je w hf ll ?_
 rw [dD]
 refine condT (λhe=>?_) (λhe=>?_)
 ·rw [qP he];exact h1 he
 have he:=Classical.not_not.1 he
 obtain ⟨hm,hh⟩:=okH he
 have o:=okM w hf hm
 have h2:=h2 he
 have hp:=o.p24
 have hk:=o.k6
 refine GC (by unfold rng;omega) λr1=>?_
 rw [Cm] at r1 ⊢
 refine dO (n:=l.length) (λi y=>y=((i:Int),bj (wM m l i))/\Rp (64+i*2000) (bj (wM m l i)) (wM m l i)) (λy=>y.1) 0 (λi y h=>by rw [h.1];simp) ⟨rfl,r1⟩ ?_ ?_
 ·rintro i _ next hi ⟨rfl,hR⟩ hn
  have hin:i<m.P.length:=by rw [<-hh.1];exact hi
  obtain ⟨h0,hK⟩:=hh.2 i hi
  obtain ⟨a,ha⟩:=Int.eq_ofNat_of_zero_le h0
  have hc:cW m l i=min (a+1) m.Phases.length:=by unfold cW;rw [ha];rfl
  have hmin:(min (at' l (i:Int)+1) (m.Phases.length:Int))=(cW m l i:Int):=by rw [hc,ha];omega
  have hcK:cW m l i<=m.Phases.length:=by rw [hc];omega
  have hrow:=o.row i hin
  refine condT (λ_=>⟨⟨by omega,by omega⟩,⟨by omega,by omega⟩,by unfold rng;omega,⟨by omega,by rw [hmin];omega,by rw [hmin,hrow];omega⟩,?_⟩) (λhc=>absurd (show (i:Int)<(l.length:Int) by omega) hc)
  have hsl:(cB (at' m.P (i:Int)) 0 (min (at' l (i:Int)+1) (m.Phases.length:Int))).length=cW m l i:=by rw [hmin,Dx om (by rw [hrow];omega)];simp
  refine dO (n:=cW m l i) (λk y=>y=((k:Int),bj (wI m l (wM m l i) i k))/\Rp (64+i*2000+k*200) (bj (wI m l (wM m l i) i k)) (wI m l (wM m l i) i k)) (λy=>y.1) 0 (λi y h=>by rw [h.1];simp) ⟨rfl,hR⟩ ?_ ?_
  ·rintro k _ next2 hkc ⟨rfl,hR2⟩ hn2
   have hat:at' (cB (at' m.P (i:Int)) 0 (min (at' l (i:Int)+1) (m.Phases.length:Int))) (k:Int)=at' (at' m.P (i:Int)) (k:Int):=by rw [hmin];exact Ft om (by rw [hrow];omega) om
   have hpr:=o.pRp hin (show k<m.Phases.length by omega)
   have key:∀ {z:GRat},Rp 195 z (fq m l i k)->dv (bj (wI m l (wM m l i) i k)) z (λr1=>rng ((k:Int)+1)/\next2 ((k:Int)+1,r1)):=λ{z} hz=>
    EQ hR2 hz (by simp only [cap];omega) λhr=>⟨by unfold rng;omega,hn2 _ ⟨rfl,hr.mono om⟩⟩
   refine condT (λ_=>⟨⟨by omega,by rw [hsl];omega⟩,λz=>Rp 195 z (fq m l i k),?_,λz hz=>key hz⟩) (λhc=>absurd (show (k:Int)<_ by rw [hsl];omega) hc)
   rw [hat]
   refine condT (λhb=>B0 r1 hpr (by decide) λhr=>?_) (λhb=>?_)
   ·have e:fq m l i k=1-pq m i k:=by unfold fq;rw [if_pos hb]
    rw [e];exact hr.mono om
   ·have e:fq m l i k=pq m i k:=by unfold fq;rw [if_neg hb]
    rw [e];exact hpr.mono om
  ·rintro _ next2 ⟨rfl,hR2⟩
   refine condT (λhc=>absurd hc (by rw [hsl];omega)) (λ_=>⟨by unfold rng;omega,hn _ ⟨rfl,?_⟩⟩)
   exact hR2.mono om
 ·rintro _ next ⟨rfl,hR⟩
  exact condT (λhc=>absurd hc om) (λ_=>h2 (hR.mono (by rw [hh.1];omega)))
end Go.Gg
namespace Go.Gg
def soL (K i j:Nat):List Int:=(List.range j).map λk=>((i*K+k:Nat):Int)
def orN (K i j:Nat):GNode:=⟨3,0,soL K i (j+1)⟩
def orR (K i:Nat) (j:Nat):List GNode:=(List.range (j-1)).map λk=>orN K i (k+1)
def na (K:Nat):Nat->List GNode
 | 0=>[]
 | i+1=>na K i++orR K i K
theorem gZ {K:Nat}:∀i,(na K i).length=i*(K-1)
 | 0=>by simp [na]
 | i+1=>by rw [na,List.length_append,gZ i,orR,List.length_map,List.length_range,Nat.succ_mul]
def byv (n K i j:Nat):Int:=if j=0 then ((i*K:Nat):Int) else ((n*K+i*(K-1)+(j-1):Nat):Int)
def byR (n K i j:Nat):List Int:=(List.range j).map (byv n K i)
def byF (n K i j:Nat):List (List Int):=(List.range n).map λa=>if a<i then byR n K a K else if a=i then byR n K i j else []
theorem cp {α:Type} [Inhabited α] {g:Nat->α} {n i:Nat} (h:i<n):at' ((List.range n).map g) (i:Int)=g i:=by
 simp [at',List.getD_eq_getElem?_getD,h]
theorem w7 {α β:Type} [Inhabited α] [Inhabited β] {g:α->β} {l:List α} {i:Nat} (h:i<l.length):at' (l.map g) (i:Int)=g (at' l (i:Int)):=by
 simp [at',List.getD_eq_getElem?_getD,List.getElem?_eq_getElem h]
theorem pC {α:Type} {g:Nat->α} {n:Nat}:(List.range n).map g++[g n]=(List.range (n+1)).map g:=by
 rw [List.range_succ,List.map_append];rfl
theorem wW {n K i j:Nat}:(byF n K i j).length=n:=by simp [byF]
theorem F5 {n K i j:Nat} (h:i<n):at' (byF n K i j) (i:Int)=byR n K i j:=by
 unfold byF
 rw [cp h,if_neg om,if_pos rfl]
theorem AB {n K i j:Nat} (h:i<n):bq (byF n K i j) (i:Int) (byR n K i j++[byv n K i j])=byF n K i (j+1):=by
 refine sr (by simp [bq,byF]) λa ha=>?_
 have ha:a<n:=by simpa [bq,byF] using ha
 rw [gy (by rw [wW];exact h)]
 unfold byF
 rw [cp ha,cp ha]
 by_cases h1:a=i
 ·subst h1
  rw [if_pos rfl,if_neg om,if_pos rfl]
  exact pC
 ·rw [if_neg h1,if_neg h1,if_neg h1]
theorem C4 {n K i:Nat}:byF n K i K=byF n K (i+1) 0:=by
 unfold byF
 refine List.map_congr_left λa _=>?_
 rcases Nat.lt_trichotomy a i with h | h | h
 ·rw [if_pos h,if_pos om]
 ·subst h
  rw [if_neg om,if_pos rfl,if_pos om]
 ·rw [if_neg om,if_neg om,if_neg om]
  split
  ·simp [byR]
  ·rfl
theorem C3 {n K:Nat}:bu ((n:Nat):Int) ([]:List Int)=byF n K 0 0:=by
 refine sr (by simp [bu,byF]) λa ha=>?_
 have ha:a<n:=by simpa [bu] using ha
 unfold byF
 rw [cp ha,if_neg om]
 have:at' (bu ((n:Nat):Int) ([]:List Int)) (a:Int)=[]:=by simp [at',bu,List.getD_eq_getElem?_getD,ha]
 rw [this]
 split
 ·simp [byR]
 ·rfl
theorem Ep {n K a:Nat} (h:a<n):at' (byF n K n 0) (a:Int)=byR n K a K:=by
 unfold byF
 rw [cp h,if_pos h]
theorem wV {n K i j:Nat}:(byR n K i j).length=j:=by simp [byR]
theorem F4 {n K i j k:Nat} (h:k<j):at' (byR n K i j) (k:Int)=byv n K i k:=cp h
def mv (n K j:Nat) (first arg:Int):Int:=if arg<(n:Int) then byv n K arg.toNat j else first+arg-(n:Int)
def phN (n K j:Nat) (first:Int) (l:List GNode):List GNode:=l.map λx=>⟨x.Kind,x.K,x.Args.map (mv n K j first)⟩
def dG (m:GMission):Nat->List GNode
 | 0=>na m.Phases.length m.P.length
 | j+1=>dG m j++phN m.P.length m.Phases.length j (((m.P.length*m.Phases.length+(dG m j).length:Nat)):Int) (at' m.Phases (j:Int)).Nodes
def eX (m:GMission) (j:Nat):Int:=((m.P.length*m.Phases.length+(dG m j).length:Nat):Int)
def mr (m:GMission):Nat->List Int
 | 0=>[]
 | j+1=>mr m j++[mv m.P.length m.Phases.length j (eX m j) (at' m.Phases (j:Int)).Top]
def cH (m:GMission):List GNode:=if 1<m.Phases.length then dG m m.Phases.length++[⟨3,0,mr m m.Phases.length⟩] else dG m m.Phases.length
def pt (m:GMission):Int:=if 1<m.Phases.length then eX m m.Phases.length else at' (mr m m.Phases.length) 0
def i9 (m:GMission):GFormula:=⟨((m.P.length*m.Phases.length:Nat):Int),cH m,pt m⟩
def oU (m:GMission):Nat->List GRat
 | 0=>[]
 | i+1=>oU m i++at' m.P (i:Int)
theorem ge {m:GMission}:∀j,(mr m j).length=j
 | 0=>rfl
 | j+1=>by rw [mr,List.length_append,ge j];rfl
section
variable {m:GMission} (o:OkM m)
include o
theorem OkM.all_len:∀j,j<=m.Phases.length->(dG m j).length<=24+j*128
 | 0,_=>by
  rw [dG,gZ]
  have h1:=o.n24
  have:m.P.length*(m.Phases.length-1)<=m.P.length*m.Phases.length:=Nat.mul_le_mul_left _ om
  omega
 | j+1,hj=>by
  have h1:=OkM.all_len j om
  have h2:=(o.fg j om).1.n128
  rw [dG,List.length_append,phN,List.length_map]
  omega
theorem OkM.unfP_len:∀i,i<=m.P.length->(oU m i).length=i*m.Phases.length
 | 0,_=>by simp [oU]
 | i+1,hi=>by rw [oU,List.length_append,OkM.unfP_len i om,o.row i om,Nat.succ_mul]
end
theorem Em {l:List Int} (hl:l.length*8<=140737488355328):d4 l λy=>y=l:=by
 intro b hb
 refine bg (λh=>?_) (λ_=>⟨by simpa using hl,by simp⟩)
 have:=hb h
 match l with
 | []=>rfl
 | _ :: _=>simp at this
theorem Df {kind k2 V T:Int} {args:List Int} {N:List GNode} {Q:List GNode->Int->Prop} (hN:N.length<=1000000) (hV:0<=V/\V<=1000000) (h:Q (N++[⟨kind,k2,args⟩]) (V+(N.length:Int))):dz kind k2 args V T N Q:=by
 have e:((N++[(⟨kind,k2,args⟩:GNode)]).length:Int)=(N.length:Int)+1:=by simp
 have e1:(N++[(⟨kind,k2,args⟩:GNode)]).length=N.length+1:=by simp
 refine ⟨by omega,by unfold rng;omega,by unfold rng;omega,?_⟩
 rw [e,show V+((N.length:Int)+1)-1=V+(N.length:Int) by omega]
 exact h
theorem Ai {m:GMission} (o:OkM m) {j:Nat} (hj:j<m.Phases.length) {arg:Int} {a:Nat} (ha:arg=(a:Int)) (hal:a<=1000000) {first:Int} (hf:0<=first/\first<=1000000) {Q:Int->Prop} (h:Q (mv m.P.length m.Phases.length j first arg)) :
  dx arg (at' m.Phases (j:Int)) (j:Int) first (byF m.P.length m.Phases.length m.P.length 0) Q:=by
 have hv:(at' m.Phases (j:Int)).Vars=(m.P.length:Int):=by rw [(o.fg j hj).2,<-o.ev]
 have hp:=o.p24
 subst ha
 unfold mv at h
 unfold dx
 rw [hv]
 refine condT (λhc=>⟨⟨by omega,by rw [wW];omega⟩,?_⟩) (λhc=>?_)
 ·rw [if_pos hc,Int.toNat_natCast] at h
  rw [Ep om]
  refine ⟨⟨by omega,by rw [wV];omega⟩,?_⟩
  rw [F4 hj];exact h
 ·rw [if_neg hc] at h
  exact ⟨by unfold rng;omega,by unfold rng;omega,h⟩
end Go.Gg
namespace Go.Gg
theorem oE {α:Type} [Inhabited α] {l:List α} {i:Nat} (h:i<l.length):l.take i++[at' l (i:Int)]=l.take (i+1):=by
 rw [List.take_add_one,List.getElem?_eq_getElem h]
 simp [at',List.getD_eq_getElem?_getD,List.getElem?_eq_getElem h]
theorem mX {K i j:Nat}:(soL K i j).length=j:=by simp [soL]
theorem xA {K i j:Nat}:soL K i j++[((i*K:Nat):Int)+(j:Int)]=soL K i (j+1):=by
 have:=pC (g:=λk=>((i*K+k:Nat):Int)) (n:=j)
 unfold soL
 rw [<-this]
 simp
theorem wy {K i j:Nat}:(orR K i j).length=j-1:=by simp [orR]
theorem xU {K i j:Nat} (h:j≠0):orR K i j++[⟨3,0,soL K i (j+1)⟩]=orR K i (j+1):=by
 obtain ⟨a,rfl⟩:∃a,j=a+1:=⟨j-1,by omega⟩
 exact pC (g:=λk=>orN K i (k+1)) (n:=a)
theorem DU {a:GRat} (h:fG a=true):a=bj (b6 a):=by
 unfold fG at h
 rw [Bool.and_eq_true] at h
 exact ru h.1
theorem DH {n:Nat} (h:n<=1000000):rng (n:Int):=by unfold rng;omega
theorem xS {n K j t:Nat} {first:Int} {l:List GNode} (ht:t<l.length):phN n K j first (l.take t)++[⟨(at' l (t:Int)).Kind,(at' l (t:Int)).K,(at' l (t:Int)).Args.map (mv n K j first)⟩]=phN n K j first (l.take (t+1)):=by
 rw [<-oE ht,phN,phN,List.map_append];rfl
theorem OkM.arg_ok {m:GMission} (o:OkM m) {j t a:Nat} (hj:j<m.Phases.length) (ht:t<(at' m.Phases (j:Int)).Nodes.length) (ha:a<(at' (at' m.Phases (j:Int)).Nodes (t:Int)).Args.length) :
  ∃b:Nat,at' (at' (at' m.Phases (j:Int)).Nodes (t:Int)).Args (a:Int)=(b:Int)/\b<=1000:=by
 have g:=(o.fg j hj).1
 obtain ⟨h0,h1⟩:=(fh (g.node t ht)).arg a ha
 obtain ⟨b,hb⟩:=Int.eq_ofNat_of_zero_le h0
 have:=g.v24
 have:=g.n128
 exact ⟨b,hb,by omega⟩
theorem sJ {m:GMission} {Q:GFormula->List GRat->Option Int->Prop} (w:WrM m) (hf:FrM m) (h1:fp m≠0->Q ⟨0,[],0⟩ [] (some (fp m))) (h4:fp m=0->128<(cH m).length->Q ⟨0,[],0⟩ [] (some 4))
  (h2:fp m=0->(cH m).length<=128->Q (i9 m) (oU m m.P.length) none):jY m Q:=by
 refine iT w hf ?_
 rw [dD]
 refine condT (λhe=>?_) (λhe=>?_)
 ·rw [qP he];exact h1 he
 have he:=Classical.not_not.1 he
 have o:=okM w hf he
 have h4:=h4 he
 have h2:=h2 he
 have hp:=o.p24
 have hk6:=o.k6
 have hk0:=o.k0
 have hn:=o.n24
 have e1:(m.P.length:Int)*(m.Phases.length:Int)=((m.P.length*m.Phases.length:Nat):Int):=by simp
 rw [e1]
 refine ⟨DH om,⟨by omega,by omega,by omega,by omega⟩,?_⟩
 refine eI (n:=m.P.length) (λi=>((i:Int),byF m.P.length m.Phases.length i 0,na m.Phases.length i)) (λy=>y.1) 0 (λi=>by simp) (by rw [C3];rfl) ?_ ?_
 ·intro i next1 hi hn1
  have hik:i*m.Phases.length<=24:=Nat.le_trans (Nat.mul_le_mul_right _ (Nat.le_of_lt hi)) hn
  have e2:(i:Int)*(m.Phases.length:Int)=((i*m.Phases.length:Nat):Int):=by simp
  have hik1:i*(m.Phases.length-1)<=i*m.Phases.length:=Nat.mul_le_mul_left _ om
  refine condT (λ_=>?_) (λhc=>absurd (show (i:Int)<((Int.toNat (m.P.length:Int):Nat):Int) by omega) hc)
  rw [e2]
  refine eI (n:=m.Phases.length) (λj=>((j:Int),byF m.P.length m.Phases.length i j,soL m.Phases.length i j,na m.Phases.length i++orR m.Phases.length i j)) (λy=>y.1) 0 (λj=>by simp) (by simp [soL,orR]) ?_ ?_
  ·intro j next2 hj hn2
   refine condT (λ_=>⟨DH om,by unfold rng;omega,?_⟩) (λhc=>absurd (show (j:Int)<(m.Phases.length:Int) by omega) hc)
   rw [xA,mX,F5 hi]
   have hb1:((0:Int)<=(i:Int)/\(i:Int)<((byF m.P.length m.Phases.length i j).length:Int)):=⟨by omega,by rw [wW];omega⟩
   refine ⟨by omega,bO (λhj0=>⟨hb1,⟨by omega,by omega⟩,?_⟩) (λhj0=>⟨hb1,_,Em (by rw [mX];omega),?_⟩)⟩
   ·obtain rfl:j=0:=om
    have e3:at' (soL m.Phases.length i (0+1)) 0=byv m.P.length m.Phases.length i 0:=by simp [soL,byv,at']
    rw [e3]
    refine ⟨?_,hb1,by unfold rng;omega,?_⟩
    ·rw [List.length_append,wV];simp
    ·rw [AB hi]
     have e4:orR m.Phases.length i (0+1)=orR m.Phases.length i 0:=rfl
     rw [e4] at hn2
     exact hn2
   ·have hol:(na m.Phases.length i++orR m.Phases.length i j).length=i*(m.Phases.length-1)+(j-1):=by rw [List.length_append,gZ,wy]
    refine ⟨_,_,Df om om ⟨rfl,rfl⟩,?_⟩
    have e3:((m.P.length*m.Phases.length:Nat):Int)+((na m.Phases.length i++orR m.Phases.length i j).length:Int)=byv m.P.length m.Phases.length i j:=by
     rw [hol,byv,if_neg om];omega
    rw [e3]
    refine ⟨?_,hb1,by unfold rng;omega,?_⟩
    ·rw [List.length_append,wV];simp;omega
    ·rw [AB hi,List.append_assoc,xU om]
     exact hn2
  ·intro next2
   refine condT (λhc=>absurd hc om) (λ_=>⟨by unfold rng;omega,?_⟩)
   rw [C4]
   exact hn1
 intro next1
 refine condT (λhc=>absurd hc om) (λ_=>?_)
 have hfst:∀j,j<=m.Phases.length->0<=eX m j/\eX m j<=10000:=λj hj=>by
  have:=o.all_len j hj
  unfold eX
  omega
 refine eI (n:=m.Phases.length) (λj=>((j:Int),mr m j,dG m j)) (λy=>y.1) 0 (λj=>by simp) rfl ?_ ?_
 ·intro j next3 hj hn3
  have hall:=o.all_len j om
  have g:=(o.fg j hj).1
  have hn128:=g.n128
  have hv24:=g.v24
  have ef:((m.P.length*m.Phases.length:Nat):Int)+((dG m j).length:Int)=eX m j:=by unfold eX;omega
  have hfs:=hfst j om
  refine condT (λ_=>⟨⟨by omega,by omega⟩,?_⟩) (λhc=>absurd (show (j:Int)<(m.Phases.length:Int) by omega) hc)
  rw [ef]
  refine ⟨by unfold rng;omega,?_⟩
  refine eI (n:=(at' m.Phases (j:Int)).Nodes.length) (λt=>((t:Int),dG m j++phN m.P.length m.Phases.length j (eX m j) ((at' m.Phases (j:Int)).Nodes.take t))) (λy=>y.1) 0 (λt=>by simp) (by simp [phN]) ?_ ?_
  ·intro t next4 ht hn4
   have hal:=(fh (g.node t ht)).len
   refine condT (λ_=>⟨⟨by omega,by omega⟩,?_⟩) (λhc=>absurd (show (t:Int)<((at' m.Phases (j:Int)).Nodes.length:Int) by omega) hc)
   refine eI (n:=(at' (at' m.Phases (j:Int)).Nodes (t:Int)).Args.length) (λa=>((a:Int),((at' (at' m.Phases (j:Int)).Nodes (t:Int)).Args.take a).map (mv m.P.length m.Phases.length j (eX m j)))) (λy=>y.1) 0 (λa=>by simp) (by simp) ?_ ?_
   ·intro a next5 ha hn5
    obtain ⟨b,hb,hb1⟩:=o.arg_ok hj ht ha
    refine condT (λ_=>⟨⟨by omega,by omega⟩,hY ?_⟩) (λhc=>absurd (show (a:Int)<((at' (at' m.Phases (j:Int)).Nodes (t:Int)).Args.length:Int) by omega) hc)
    refine Ai o hj hb om om ⟨?_,by unfold rng;omega,?_⟩
    ·rw [List.length_append,List.length_map,List.length_take];simp;omega
    ·rw [<-oE ha,List.map_append] at hn5
     exact hn5
   ·intro next5
    refine condT (λhc=>absurd hc om) (λ_=>?_)
    rw [List.take_length]
    refine Df ?_ om ⟨by unfold rng;omega,?_⟩
    ·rw [List.length_append,phN,List.length_map,List.length_take];omega
    ·rw [List.append_assoc,xS ht]
     exact hn4
  ·intro next4
   refine condT (λhc=>absurd hc om) (λ_=>?_)
   rw [List.take_length]
   obtain ⟨b,hb⟩:=Int.eq_ofNat_of_zero_le g.top0
   have htop:=g.top
   refine Ai o hj hb om om ⟨?_,by unfold rng;omega,hn3⟩
   rw [List.length_append,ge];simp;omega
 intro next3
 have hall:=o.all_len m.Phases.length om
 refine condT (λhc=>absurd hc om) (λ_=>⟨⟨by omega,by rw [ge];omega⟩,λy=>y=(pt m,cH m),?_,?_⟩)
 ·refine condT (λhc=>Df om om ?_) (λhc=>?_)
  ·have ef:((m.P.length*m.Phases.length:Nat):Int)+((dG m m.Phases.length).length:Int)=eX m m.Phases.length:=by unfold eX;omega
   rw [ef,pt,cH,if_pos om,if_pos om]
  ·rw [pt,cH,if_neg om,if_neg om]
 rintro _ rfl
 refine condT (λhc=>h4 om) (λhc=>?_)
 have h2:=h2 om
 refine eI (n:=m.P.length) (λi=>((i:Int),oU m i)) (λy=>y.1) 0 (λi=>by simp) rfl ?_ ?_
 ·intro i next6 hi hn6
  have hrow:=o.row i hi
  refine condT (λ_=>⟨⟨by omega,by omega⟩,?_⟩) (λhc=>absurd (show (i:Int)<(m.P.length:Int) by omega) hc)
  refine eI (n:=(at' m.P (i:Int)).length) (λj=>((j:Int),oU m i++(at' m.P (i:Int)).take j)) (λy=>y.1) 0 (λi=>by simp) (by simp) ?_ ?_
  ·intro j next7 hj hn7
   have hpr:=o.pRp hi (show j<m.Phases.length by omega)
   have epq:bj (pq m i j+0)=at' (at' m.P (i:Int)) (j:Int):=by
    rw [Rat.add_zero];exact (DU (o.prob i hi j om)).symm
   refine condT (λ_=>⟨⟨by omega,by omega⟩,E5 hpr (.zero (k:=1) (by decide) (by decide)) (by decide) λ_=>⟨?_,by unfold rng;omega,?_⟩⟩) (λhc=>absurd (show (j:Int)<((at' m.P (i:Int)).length:Int) by omega) hc)
   ·have hik:i*m.Phases.length<=24:=Nat.le_trans (Nat.mul_le_mul_right _ (Nat.le_of_lt hi)) hn
    rw [List.length_append,List.length_append,o.unfP_len i om,List.length_take];simp;omega
   ·rw [epq,List.append_assoc,oE hj]
    exact hn7
  ·intro next7
   refine condT (λhc=>absurd hc om) (λ_=>⟨by unfold rng;omega,?_⟩)
   rw [List.take_length]
   exact hn6
 ·intro next6
  exact condT (λhc=>absurd hc om) (λ_=>h2)
end Go.Gg
namespace Go.Gg
theorem Gs {m:GMission} (o:OkM m) {Q:List GNode->Prop} (h:Q (na m.Phases.length m.P.length)):lJ (m.P.length:Int) (m.Phases.length:Int) Q:=by
 have hp:=o.p24
 have hk6:=o.k6
 have hk0:=o.k0
 have hn:=o.n24
 refine eI (n:=m.P.length) (λi=>((i:Int),na m.Phases.length i)) (λy=>y.1) 0 (λi=>by simp) rfl ?_ ?_
 ·intro i next1 hi hn1
  have hik:i*m.Phases.length<=24:=Nat.le_trans (Nat.mul_le_mul_right _ (Nat.le_of_lt hi)) hn
  have hik1:i*(m.Phases.length-1)<=i*m.Phases.length:=Nat.mul_le_mul_left _ om
  have e2:(i:Int)*(m.Phases.length:Int)=((i*m.Phases.length:Nat):Int):=by simp
  refine condT (λ_=>?_) (λhc=>absurd (show (i:Int)<(m.P.length:Int) by omega) hc)
  rw [e2]
  refine eI (n:=m.Phases.length-1) (λj=>(((j+1:Nat):Int),na m.Phases.length i++orR m.Phases.length i (j+1))) (λy=>y.1) 1 (λj=>by simp) (by simp [orR]) ?_ ?_
  ·intro j next2 hj hn2
   refine condT (λ_=>?_) (λhc=>absurd (show ((j+1:Nat):Int)<(m.Phases.length:Int) by omega) hc)
   refine eI (n:=j+1+1) (λk=>((k:Int),soL m.Phases.length i k)) (λy=>y.1) 0 (λk=>by simp) (by simp [soL]) ?_ ?_
   ·intro k next3 hk hn3
    refine condT (λ_=>⟨DH om,by unfold rng;omega,?_⟩) (λhc=>absurd (show (k:Int)<=((j+1:Nat):Int) by omega) hc)
    rw [xA,mX]
    exact ⟨by omega,by unfold rng;omega,hn3⟩
   ·intro next3
    refine condT (λhc=>absurd hc om) (λ_=>?_)
    rw [List.append_assoc,xU om]
    refine ⟨?_,by unfold rng;omega,hn2⟩
    rw [List.length_append,gZ,wy];omega
  ·intro next2
   refine condT (λhc=>absurd hc om) (λ_=>⟨by unfold rng;omega,?_⟩)
   rw [show m.Phases.length-1+1=m.Phases.length by omega]
   exact hn1
 ·intro next1
  exact condT (λhc=>absurd hc om) (λ_=>h)
theorem Ac {m:GMission} (o:OkM m) {j:Nat} (hj:j<m.Phases.length) {arg:Int} {a:Nat} (ha:arg=(a:Int)) (hal:a<=1000000) {first:Int} (hf:0<=first/\first<=1000000) {Q:Int->Prop} (h:Q (mv m.P.length m.Phases.length j first arg)):jw m (j:Int) arg first Q:=by
 subst ha
 have hp:=o.p24
 have hk6:=o.k6
 have hk0:=o.k0
 have hn:=o.n24
 refine gh o.k0 ?_
 rw [<-o.ev]
 unfold mv at h
 refine condT (λhc=>?_) (λhc=>?_)
 ·rw [if_neg om] at h
  exact ⟨by unfold rng;omega,by unfold rng;omega,h⟩
 ·rw [if_pos om,Int.toNat_natCast] at h
  have hak:a*m.Phases.length<=24:=Nat.le_trans (Nat.mul_le_mul_right _ om) hn
  have hak1:a*(m.Phases.length-1)<=a*m.Phases.length:=Nat.mul_le_mul_left _ om
  have e1:(a:Int)*(m.Phases.length:Int)=((a*m.Phases.length:Nat):Int):=by simp
  have e2:(m.P.length:Int)*(m.Phases.length:Int)=((m.P.length*m.Phases.length:Nat):Int):=by simp
  have e3:(m.Phases.length:Int)-1=((m.Phases.length-1:Nat):Int):=om
  have e4:(a:Int)*((m.Phases.length-1:Nat):Int)=((a*(m.Phases.length-1):Nat):Int):=by simp
  unfold byv at h
  refine bO (λh0=>?_) (λh0=>?_)
  ·rw [if_pos om] at h
   rw [e1]
   exact ⟨by unfold rng;omega,h⟩
  ·rw [if_neg om] at h
   rw [e2,e3,e4]
   refine ⟨by unfold rng;omega,by unfold rng;omega,by unfold rng;omega,by unfold rng;omega,by unfold rng;omega,by unfold rng;omega,?_⟩
   have e5:((m.P.length*m.Phases.length:Nat):Int)+((a*(m.Phases.length-1):Nat):Int)+(j:Int)-1=((m.P.length*m.Phases.length+a*(m.Phases.length-1)+(j-1):Nat):Int):=om
   rw [e5];exact h
theorem tJ {m:GMission} {Q:GFormula->List GRat->Int->Prop} (o:OkM m) (h4:128<(cH m).length->Q ⟨0,[],0⟩ [] 4)
  (h2:(cH m).length<=128->Q (i9 m) (oU m m.P.length) 0):kO m Q:=by
 have hp:=o.p24
 have hk6:=o.k6
 have hk0:=o.k0
 have hn:=o.n24
 have e1:(m.P.length:Int)*(m.Phases.length:Int)=((m.P.length*m.Phases.length:Nat):Int):=by simp
 refine gh o.k0 ?_
 rw [<-o.ev,e1]
 refine ⟨DH om,Gs o ?_⟩
 have hfst:∀j,j<=m.Phases.length->0<=eX m j/\eX m j<=10000:=λj hj=>by
  have:=o.all_len j hj
  unfold eX
  omega
 refine eI (n:=m.Phases.length) (λj=>((j:Int),dG m j,mr m j)) (λy=>y.1) 0 (λj=>by simp) rfl ?_ ?_
 ·intro j next3 hj hn3
  have hall:=o.all_len j om
  have g:=(o.fg j hj).1
  have hn128:=g.n128
  have hv24:=g.v24
  have ef:((m.P.length*m.Phases.length:Nat):Int)+((dG m j).length:Int)=eX m j:=by unfold eX;omega
  have hfs:=hfst j om
  refine condT (λ_=>⟨⟨by omega,by omega⟩,?_⟩) (λhc=>absurd (show (j:Int)<(m.Phases.length:Int) by omega) hc)
  rw [ef]
  refine ⟨by unfold rng;omega,?_⟩
  refine eI (n:=(at' m.Phases (j:Int)).Nodes.length) (λt=>((t:Int),dG m j++phN m.P.length m.Phases.length j (eX m j) ((at' m.Phases (j:Int)).Nodes.take t))) (λy=>y.1) 0 (λt=>by simp) (by simp [phN]) ?_ ?_
  ·intro t next4 ht hn4
   have hal:=(fh (g.node t ht)).len
   have hb:(0:Int)<=(t:Int)/\(t:Int)<((at' m.Phases (j:Int)).Nodes.length:Int):=⟨by omega,by omega⟩
   refine condT (λ_=>⟨hb,hb,?_⟩) (λhc=>absurd (show (t:Int)<((at' m.Phases (j:Int)).Nodes.length:Int) by omega) hc)
   refine eI (n:=(at' (at' m.Phases (j:Int)).Nodes (t:Int)).Args.length) (λa=>((a:Int),((at' (at' m.Phases (j:Int)).Nodes (t:Int)).Args.take a).map (mv m.P.length m.Phases.length j (eX m j)))) (λy=>y.1) 0 (λa=>by simp) (by simp) ?_ ?_
   ·intro a next5 ha hn5
    obtain ⟨b,hb2,hb1⟩:=o.arg_ok hj ht ha
    refine ⟨hb,condT (λ_=>⟨hb,⟨by omega,by omega⟩,_,Ac o hj hb2 om om rfl,?_⟩) (λhc=>absurd (show (a:Int)<((at' (at' m.Phases (j:Int)).Nodes (t:Int)).Args.length:Int) by omega) hc)⟩
    refine ⟨?_,by unfold rng;omega,?_⟩
    ·rw [List.length_append,List.length_map,List.length_take];simp;omega
    ·rw [<-oE ha,List.map_append] at hn5
     exact hn5
   ·intro next5
    refine ⟨hb,condT (λhc=>absurd hc om) (λ_=>?_)⟩
    rw [List.take_length,List.append_assoc,xS ht]
    refine ⟨?_,by unfold rng;omega,hn4⟩
    rw [List.length_append,phN,List.length_map,List.length_take];omega
  ·intro next4
   refine condT (λhc=>absurd hc om) (λ_=>?_)
   rw [List.take_length]
   obtain ⟨b,hb⟩:=Int.eq_ofNat_of_zero_le g.top0
   have htop:=g.top
   refine ⟨_,Ac o hj hb om om rfl,?_,by unfold rng;omega,hn3⟩
   rw [List.length_append,ge];simp;omega
 intro next3
 have hall:=o.all_len m.Phases.length om
 refine condT (λhc=>absurd hc om) (λ_=>⟨⟨by omega,by rw [ge];omega⟩,λy=>y=(pt m,cH m),?_,?_⟩)
 ·have ef:((m.P.length*m.Phases.length:Nat):Int)+((dG m m.Phases.length).length:Int)=eX m m.Phases.length:=by unfold eX;omega
  have hfs:=hfst m.Phases.length om
  refine condT (λhc=>?_) (λhc=>?_)
  ·rw [ef,pt,cH,if_pos om,if_pos om]
   refine ⟨by unfold rng;omega,?_,rfl⟩
   rw [List.length_append];simp;omega
  ·rw [pt,cH,if_neg om,if_neg om]
 rintro _ rfl
 refine condT (λhc=>h4 om) (λhc=>?_)
 have h2:=h2 om
 refine eI (n:=m.P.length) (λi=>((i:Int),oU m i)) (λy=>y.1) 0 (λi=>by simp) rfl ?_ ?_
 ·intro i next6 hi hn6
  have hik:i*m.Phases.length<=24:=Nat.le_trans (Nat.mul_le_mul_right _ (Nat.le_of_lt hi)) hn
  refine condT (λ_=>⟨⟨by omega,by omega⟩,?_,by unfold rng;omega,hn6⟩) (λhc=>absurd (show (i:Int)<(m.P.length:Int) by omega) hc)
  rw [List.length_append,o.unfP_len i om,o.row i hi];omega
 ·intro next6
  exact condT (λhc=>absurd hc om) (λ_=>h2)
def exM (r:GRat):GMission:=⟨[⟨2,[⟨2,0,[0,1]⟩],2⟩,⟨2,[⟨3,0,[0,1]⟩],2⟩],[[r,r],[r,r]]⟩
def jN:Rat:=((1:Int):Rat) / ((2:Int):Rat)
theorem yh {m:GMission} (h0:0<m.Phases.length) (h6:m.Phases.length<=6) (hf:∀j:Nat,j<m.Phases.length->jd (at' m.Phases (j:Int))=0/\(at' m.Phases (j:Int)).Vars=evt m) (h24:evt m*(m.Phases.length:Int)<=24) (hp:(m.P.length:Int)=evt m)
  (hr:∀i:Nat,i<m.P.length->(at' m.P (i:Int)).length=m.Phases.length/\∀j:Nat,j<(at' m.P (i:Int)).length->fG (at' (at' m.P (i:Int)) (j:Int))=true):fp m=0:=by
 unfold fp
 have hz:jq (phE m) m.Phases.length=0:=b9.2 λj hj=>by
  unfold phE
  rw [if_neg (λhh=>hh (hf j hj).1),if_neg (λhh=>hh (hf j hj).2)]
 rw [if_neg om,if_neg om,if_neg (λhh=>hh hz),if_neg om,if_neg (λhh=>hh hp)]
 refine b9.2 λi hi=>?_
 unfold l5
 rw [if_neg (λhh=>hh (hr i hi).1),if_neg]
 rintro ⟨j,hj,hb⟩
 rw [(hr i hi).2 j hj] at hb
 cases hb
theorem qH:RB 129 jN:=(zv (pT (n:=1) (k:=6) om (by decide)) (pT (n:=2) (k:=6) om (by decide))).mono om
theorem jr {P:Nat->Prop} (h0:P 0) (h1:P 1):∀i:Nat,i<2->P i:=λi hi=>by
 match i with
 | 0=>exact h0
 | 1=>exact h1
 | i+2=>omega
section
variable {r:GRat} (hr:Fr r) (hv:b6 r=jN) (hb:fG r=true)
include hr hv
theorem GN:FrM (exM r):=jr (jr ⟨hr,by show RB 129 (b6 r);rw [hv];exact qH⟩ ⟨hr,by show RB 129 (b6 r);rw [hv];exact qH⟩) (jr ⟨hr,by show RB 129 (b6 r);rw [hv];exact qH⟩ ⟨hr,by show RB 129 (b6 r);rw [hv];exact qH⟩)
omit hv in
theorem GL:WrM (exM r):=⟨by show 2<=9223372036854775807;decide,by show 2<=9223372036854775807;decide,jr (by show 2<=9223372036854775807;decide) (by show 2<=9223372036854775807;decide),jr (by show rng 2;unfold rng;omega) (by show rng 2;unfold rng;omega),jr (jr ⟨hr.1,hr.2.1⟩ ⟨hr.1,hr.2.1⟩) (jr ⟨hr.1,hr.2.1⟩ ⟨hr.1,hr.2.1⟩)⟩
omit hr hv in
include hb in
theorem FW:fp (exM r)=0:=
 yh (by show 0<2;decide) (by show 2<=6;decide) (jr ⟨by show jd ⟨2,[⟨2,0,[0,1]⟩],2⟩=0;decide +kernel,rfl⟩ ⟨by show jd ⟨2,[⟨3,0,[0,1]⟩],2⟩=0;decide +kernel,rfl⟩) (by show (2:Int)*2<=24;decide) rfl (jr ⟨rfl,jr hb hb⟩ ⟨rfl,jr hb hb⟩)
omit hr in
end
end Go.Gg
namespace Go.Gg
def qq (b:Int) (x:GNode):Int:=
 if x.Kind<0\/5<x.Kind then 7
 else if lq x.Kind x.Args.length=false then 11
 else if ∃j<x.Args.length,at' x.Args ((j:Nat):Int)<0\/b<=at' x.Args ((j:Nat):Int) then 10
 else if x.Kind=0 then (if x.K≠0/\x.K≠1 then 3 else 0)
 else if x.Kind=4 then (if x.K<1\/(x.Args.length:Int)<x.K then 3 else 0)
 else if x.K≠0 then 2 else 0
theorem D0 {f:GFormula} {i:Nat}:iU f i=qq (f.Vars+i) (at' f.Nodes (i:Int)):=rfl
theorem rA {b:Int} {x:GNode} (h:qq b x=0) (j:Nat) (hj:j<x.Args.length):0<=at' x.Args (j:Int)/\at' x.Args (j:Int)<b:=by
 unfold qq at h
 split at h
 ·cases h
 split at h
 ·cases h
 split at h
 ·cases h
 rename_i _ _ h3
 rw [not_exists] at h3
 have:=h3 j
 simp only [hj,true_and,not_or] at this
 omega
theorem A5 {b b':Int} {x y:GNode} (h:qq b x=0) (hk:y.Kind=x.Kind) (hK:y.K=x.K) (hl:y.Args.length=x.Args.length) (ha:∀j:Nat,j<y.Args.length->0<=at' y.Args (j:Int)/\at' y.Args (j:Int)<b'):qq b' y=0:=by
 unfold qq at h ⊢
 rw [hk,hK,hl]
 split at h
 ·cases h
 rename_i h1
 rw [if_neg h1]
 split at h
 ·cases h
 rename_i h2
 rw [if_neg h2]
 split at h
 ·cases h
 rw [if_neg]
 ·exact h
 ·rintro ⟨j,hj,hb⟩
  have:=ha j om
  omega
theorem yb {b:Int} {l:List Int} (h1:1<=l.length) (h16:l.length<=16) (ha:∀j:Nat,j<l.length->0<=at' l (j:Int)/\at' l (j:Int)<b):qq b ⟨3,0,l⟩=0:=by
 unfold qq
 dsimp only
 rw [if_neg om,if_neg,if_neg,if_neg om,if_neg om,if_neg (by simp)]
 ·rintro ⟨j,hj,hb⟩
  have:=ha j hj
  omega
 ·unfold lq
  rw [if_neg om,if_neg om]
  simp;omega
theorem qX {m:GMission} {j:Nat}:∀J,j<=J->∃r,dG m J=dG m j++r
 | 0,h=>by
  obtain rfl:j=0:=om
  exact ⟨[],by simp⟩
 | J+1,h=>by
  rcases Nat.lt_or_ge J j with h1 | h1
  ·obtain rfl:j=J+1:=om
   exact ⟨[],by simp⟩
  ·obtain ⟨r,hr⟩:=qX (m:=m) J h1
   exact ⟨r++phN m.P.length m.Phases.length J (((m.P.length*m.Phases.length+(dG m J).length:Nat)):Int) (at' m.Phases (J:Int)).Nodes,by rw [dG,hr,List.append_assoc]⟩
theorem xm {m:GMission} {j:Nat} (hj:j<=m.Phases.length):∃r,cH m=dG m j++r:=by
 obtain ⟨r,hr⟩:=qX (m:=m) m.Phases.length hj
 unfold cH
 split
 ·exact ⟨r++[⟨3,0,mr m m.Phases.length⟩],by rw [hr,List.append_assoc]⟩
 ·exact ⟨r,hr⟩
theorem kC {α:Type} [Inhabited α] {l r:List α} {t:Nat}:at' (l++r) ((l.length+t:Nat):Int)=at' r (t:Int):=by
 unfold at'
 rw [Int.toNat_natCast,Int.toNat_natCast,List.getD_eq_getElem?_getD,List.getD_eq_getElem?_getD,List.getElem?_append_right om,show l.length+t-l.length=t by omega]
def Br (b:Int) (l:List GNode):Prop:=∀t:Nat,t<l.length->qq (b+t) (at' l (t:Int))=0
theorem uL {b:Int} {l r:List GNode} (h1:Br b l) (h2:Br (b+l.length) r):Br b (l++r):=λt ht=>by
 rcases Nat.lt_or_ge t l.length with h | h
 ·rw [dE om om];exact h1 t h
 ·obtain ⟨u,rfl⟩:∃u,t=l.length+u:=⟨t-l.length,by omega⟩
  rw [kC]
  have:=h2 u (by rw [List.length_append] at ht;omega)
  rw [show b+((l.length+u:Nat):Int)=b+(l.length:Int)+(u:Int) by omega]
  exact this
theorem Cj {m:GMission} (o:OkM m):∀i,i<=m.P.length->∀(b:Int),((m.P.length*m.Phases.length:Nat):Int)<=b->Br b (na m.Phases.length i)
 | 0,_,b,_=>λt ht=>by simp [na] at ht
 | i+1,hi,b,hb=>by
  have hk6:=o.k6
  rw [na]
  refine uL (Cj o i om b hb) λt ht=>?_
  rw [wy] at ht
  unfold orR
  rw [cp ht]
  refine yb (by rw [mX];omega) (by rw [mX];omega) λj hj=>?_
  rw [mX] at hj
  unfold soL
  rw [cp hj]
  have:=nk (i:=i) (n:=m.P.length) (K:=m.Phases.length) om
  omega
theorem F3 {m:GMission} {i j:Nat} (hi:i<m.P.length) (hj:j<m.Phases.length):0<=byv m.P.length m.Phases.length i j/\byv m.P.length m.Phases.length i j<((m.P.length*m.Phases.length+m.P.length*(m.Phases.length-1):Nat):Int):=by
 have h1:=nk (i:=i) (n:=m.P.length) (K:=m.Phases.length) hi
 have h2:=nk (i:=i) (n:=m.P.length) (K:=m.Phases.length-1) hi
 unfold byv
 split
 ·omega
 ·omega
theorem Ey {m:GMission} (j:Nat):m.P.length*(m.Phases.length-1)<=(dG m j).length:=by
 obtain ⟨r,hr⟩:=qX (m:=m) (j:=0) j om
 rw [hr,List.length_append,dG,gZ];omega
theorem EP {m:GMission} (o:OkM m) {j:Nat} (hj:j<m.Phases.length) {a:Int} {u:Nat} (h0:0<=a) (h1:a<evt m+u):0<=mv m.P.length m.Phases.length j (eX m j) a/\mv m.P.length m.Phases.length j (eX m j) a<eX m j+u:=by
 have hg:=Ey (m:=m) j
 have he:=o.ev
 unfold mv
 split
 ·have:=F3 (m:=m) (i:=a.toNat) (j:=j) om hj
  unfold eX
  omega
 ·unfold eX
  omega
theorem Db {m:GMission} (o:OkM m):∀j,j<=m.Phases.length->Br ((m.P.length*m.Phases.length:Nat):Int) (dG m j)
 | 0,_=>Cj o _ (Nat.le_refl _) _ (Int.le_refl _)
 | j+1,hj=>by
  rw [dG]
  refine uL (Db o j om) λt ht=>?_
  unfold phN at ht ⊢
  rw [List.length_map] at ht
  rw [w7 ht]
  have g:=(o.fg j om).1
  have hn:=g.node t ht
  rw [D0,(o.fg j om).2] at hn
  refine A5 hn rfl rfl (by simp) λa ha=>?_
  simp only [List.length_map] at ha
  dsimp only
  rw [w7 ha]
  have h1:=rA hn a ha
  have:=EP o (j:=j) om h1.1 h1.2
  unfold eX at this
  omega
theorem zF {m:GMission} {J j:Nat}:j<J->at' (mr m J) (j:Int)=mv m.P.length m.Phases.length j (eX m j) (at' m.Phases (j:Int)).Top:=by
 induction J with
 | zero=>intro h;omega
 | succ J ih=>
  intro h
  rw [mr]
  rcases Nat.lt_or_ge j J with h1 | h1
  ·rw [dE om (by rw [ge];omega)];exact ih h1
  ·obtain rfl:j=J:=om
   have:=gz (l:=mr m j) (x:=mv m.P.length m.Phases.length j (eX m j) (at' m.Phases (j:Int)).Top)
   rw [ge] at this
   exact this
theorem wi {m:GMission} (o:OkM m) {j:Nat} (hj:j<m.Phases.length):0<=at' (mr m m.Phases.length) (j:Int)/\at' (mr m m.Phases.length) (j:Int)<eX m m.Phases.length:=by
 rw [zF hj]
 have g:=(o.fg j hj).1
 have ht:=g.top
 rw [(o.fg j hj).2] at ht
 have h1:=EP o hj g.top0 ht
 obtain ⟨r,hr⟩:=qX (m:=m) (j:=j+1) m.Phases.length om
 have hl:(dG m m.Phases.length).length=(dG m j).length+(at' m.Phases (j:Int)).Nodes.length+r.length:=by
  rw [hr,List.length_append,dG,List.length_append,phN,List.length_map]
 unfold eX at h1 ⊢
 omega
theorem yQ {m:GMission} (o:OkM m) (h128:(cH m).length<=128):FG (i9 m):=by
 have hk6:=o.k6
 have hk0:=o.k0
 have hB:=Db o m.Phases.length (Nat.le_refl _)
 refine ⟨by show (0:Int)<=((m.P.length*m.Phases.length:Nat):Int);omega,by show ((m.P.length*m.Phases.length:Nat):Int)<=24;have:=o.n24;omega,h128,λi hi=>?_,?_,?_⟩
 ·have:Br ((m.P.length*m.Phases.length:Nat):Int) (cH m):=by
   unfold cH
   split
   ·refine uL hB λt ht=>?_
    obtain rfl:t=0:=by simpa using ht
    refine yb (by rw [ge];omega) (by rw [ge];omega) λj hj=>?_
    rw [ge] at hj
    have:=wi o hj
    unfold eX at this
    omega
   ·exact hB
  exact this i hi
 ·show 0<=pt m
  unfold pt
  split
  ·unfold eX;omega
  ·exact (wi o hk0).1
 ·show pt m<((m.P.length*m.Phases.length:Nat):Int)+((cH m).length:Int)
  unfold pt cH
  split
  ·unfold eX;rw [List.length_append];simp;omega
  ·have:=(wi o hk0).2
   unfold eX at this
   have e:at' (mr m m.Phases.length) 0=at' (mr m m.Phases.length) ((0:Nat):Int):=rfl
   rw [e];omega
end Go.Gg
namespace Go.Gg
theorem xg {f:GFormula} {s i:Nat} (g:FG f) (hi:i<f.Nodes.length):at' (cq f s f.Nodes.length) (f.Vars+i)=gn (at' f.Nodes (i:Int)) (cq f s f.Nodes.length):=by
 have v0:=g.v0
 rw [mq v0 hi]
 unfold gn
 congr 1
 refine vY _ λk hk=>?_
 have:=rA (g.node i hi) k hk
 exact (iG (m:=i) this.1 om f.Nodes.length om).symm
theorem wT {x:GNode} {v:List Bool}:∀n,0<cnt x v n↔∃j:Nat,j<n/\at' v (at' x.Args (j:Int))=true
 | 0=>by simp [cnt]
 | n+1=>by
  rw [cnt]
  constructor
  ·intro h
   by_cases hv:at' v (at' x.Args (n:Int))=true
   ·exact ⟨n,by omega,hv⟩
   ·rw [if_neg hv] at h
    obtain ⟨j,hj,hh⟩:=(wT n).1 om
    exact ⟨j,by omega,hh⟩
  ·rintro ⟨j,hj,hh⟩
   rcases Nat.lt_or_ge j n with h1 | h1
   ·have:=(wT n).2 ⟨j,h1,hh⟩
    omega
   ·obtain rfl:j=n:=om
    rw [if_pos hh];omega
theorem Ck {l:List Int} {v:List Bool}:gn ⟨3,0,l⟩ v=decide (∃j:Nat,j<l.length/\at' v (at' l (j:Int))=true):=by
 have h:=wT (x:=⟨3,0,l⟩) (v:=v) l.length
 unfold gn mG
 dsimp only at h ⊢
 rw [if_neg om,if_neg om,if_neg om,if_pos rfl]
 exact decide_eq_decide.2 (by rw [<-h];omega)
theorem z5 {K:Nat} {i j:Nat} (hj:j<K-1):∀n,i<n->at' (na K n) ((i*(K-1)+j:Nat):Int)=orN K i (j+1)
 | 0,h=>om
 | n+1,h=>by
  rw [na]
  rcases Nat.lt_or_ge i n with h1 | h1
  ·have:=nk (i:=i) (n:=n) (K:=K-1) h1
   rw [dE om (by rw [gZ];omega)]
   exact z5 hj n h1
  ·obtain rfl:i=n:=om
   have:=kC (l:=na K i) (r:=orR K i K) (t:=j)
   rw [gZ] at this
   rw [this]
   unfold orR
   rw [cp hj]
section
variable {m:GMission} (o:OkM m) (h128:(cH m).length<=128) (s:Nat)
theorem wg {a:Nat} (ha:a<m.P.length*m.Phases.length):at' (cq (i9 m) s (cH m).length) (a:Int)=inS s a:=by
 have:=gS (f:=i9 m) (s:=s) (a:=(a:Int)) om (by show (a:Int)<((m.P.length*m.Phases.length:Nat):Int);omega) (cH m).length
 rw [Int.toNat_natCast] at this
 exact this
include o h128 in
theorem tr {t:Nat} (ht:t<(cH m).length):at' (cq (i9 m) s (cH m).length) (((m.P.length*m.Phases.length+t:Nat)):Int)=gn (at' (cH m) (t:Int)) (cq (i9 m) s (cH m).length):=by
 have:=xg (f:=i9 m) (s:=s) (i:=t) (yQ o h128) ht
 have e:(((m.P.length*m.Phases.length+t:Nat)):Int)=(i9 m).Vars+(t:Int):=by
  show _=((m.P.length*m.Phases.length:Nat):Int)+(t:Int)
  omega
 rw [e]
 exact this
include o h128 in
theorem yO {i j:Nat} (hi:i<m.P.length) (hj:j<m.Phases.length):at' (cq (i9 m) s (cH m).length) (byv m.P.length m.Phases.length i j)=decide (∃k,k<=j/\inS s (i*m.Phases.length+k)=true):=by
 have hx:=nk (i:=i) (n:=m.P.length) (K:=m.Phases.length) hi
 unfold byv
 split
 ·rename_i h0
  subst h0
  rw [wg s om]
  rw [Bool.eq_iff_iff,decide_eq_true_eq]
  constructor
  ·intro h;exact ⟨0,Nat.le_refl _,h⟩
  ·rintro ⟨k,hk,h⟩
   obtain rfl:k=0:=om
   exact h
 ·rename_i h0
  obtain ⟨r,hr⟩:=xm (m:=m) (j:=0) om
  have hy:=nk (i:=i) (n:=m.P.length) (K:=m.Phases.length-1) hi
  have hol:(na m.Phases.length m.P.length).length=m.P.length*(m.Phases.length-1):=gZ _
  have hlt:i*(m.Phases.length-1)+(j-1)<(cH m).length:=by
   rw [hr,List.length_append,dG,hol];omega
  have e:m.P.length*m.Phases.length+i*(m.Phases.length-1)+(j-1)=m.P.length*m.Phases.length+(i*(m.Phases.length-1)+(j-1)):=om
  rw [e,tr o h128 s hlt]
  have hat:at' (cH m) ((i*(m.Phases.length-1)+(j-1):Nat):Int)=orN m.Phases.length i j:=by
   rw [hr,dG,dE om (by rw [hol];omega),z5 om _ hi,show j-1+1=j by omega]
  rw [hat,orN,Ck,mX]
  refine decide_eq_decide.2 ⟨?_,?_⟩
  ·rintro ⟨k,hk,h⟩
   unfold soL at h
   rw [cp hk,wg s om] at h
   exact ⟨k,by omega,h⟩
  ·rintro ⟨k,hk,h⟩
   refine ⟨k,by omega,?_⟩
   unfold soL
   rw [cp om,wg s om]
   exact h
end
def Fits (m:GMission) (s:Nat) (l:List Int):Prop:=l.length=m.P.length/\∀i:Nat,i<m.P.length->∀j:Nat,j<m.Phases.length->(at' l (i:Int)<=(j:Int)↔∃k,k<=j/\inS s (i*m.Phases.length+k)=true)
theorem ya {x y:GNode} {v v':List Bool} (hk:y.Kind=x.Kind) (hK:y.K=x.K) (hl:y.Args.length=x.Args.length) (h:∀j:Nat,j<x.Args.length->at' v' (at' y.Args (j:Int))=at' v (at' x.Args (j:Int))):gn y v'=gn x v:=by
 have hc:∀n,n<=x.Args.length->cnt y v' n=cnt x v n:=λn=>by
  induction n with
  | zero=>intro _;rfl
  | succ n ih=>intro hn;rw [cnt,cnt,ih om,h n om]
 unfold gn mG
 rw [hk,hK,hl,hc _ (Nat.le_refl _)]
theorem rj {m:GMission} (o:OkM m) (h128:(cH m).length<=128) {s:Nat} {l:List Int} (hf:Fits m s l) {j:Nat} (hj:j<m.Phases.length):∀a:Nat,(a:Int)<evt m+(at' m.Phases (j:Int)).Nodes.length->
  at' (cq (i9 m) s (cH m).length) (mv m.P.length m.Phases.length j (eX m j) (a:Int))=at' (cq (at' m.Phases (j:Int)) (iX l (j:Int)) (at' m.Phases (j:Int)).Nodes.length) (a:Int):=by
 intro a
 have he:=o.ev
 have g:=(o.fg j hj).1
 have hv:=(o.fg j hj).2
 induction a using Nat.strongRecOn with
 | _ a ih=>
  intro ha
  unfold mv
  split
  ·rename_i h1
   rw [Int.toNat_natCast,yO o h128 s om hj,gS om (by rw [hv];omega),Int.toNat_natCast,wG]
   unfold iX
   rw [ot,decide_eq_true (show a<l.length by rw [hf.1];omega),Bool.true_and,uj]
   exact decide_eq_decide.2 (hf.2 a om j hj).symm
  ·rename_i h1
   obtain ⟨t,rfl⟩:∃t,a=m.P.length+t:=⟨a-m.P.length,by omega⟩
   have ht:t<(at' m.Phases (j:Int)).Nodes.length:=om
   obtain ⟨r,hr⟩:=xm (m:=m) (j:=j+1) om
   have hlen:(dG m j).length+t<(cH m).length:=by
    rw [hr,List.length_append,dG,List.length_append,phN,List.length_map];omega
   have e:eX m j+((m.P.length+t:Nat):Int)-(m.P.length:Int)=((m.P.length*m.Phases.length+((dG m j).length+t):Nat):Int):=by unfold eX;omega
   rw [e,tr o h128 s hlen]
   have e2:((m.P.length+t:Nat):Int)=(at' m.Phases (j:Int)).Vars+(t:Int):=by rw [hv];omega
   rw [e2,xg g ht]
   have hat:at' (cH m) (((dG m j).length+t:Nat):Int)=⟨(at' (at' m.Phases (j:Int)).Nodes (t:Int)).Kind,(at' (at' m.Phases (j:Int)).Nodes (t:Int)).K,(at' (at' m.Phases (j:Int)).Nodes (t:Int)).Args.map (mv m.P.length m.Phases.length j (eX m j))⟩:=by
    rw [hr,dG,List.append_assoc,kC,dE om (by rw [phN,List.length_map];omega),phN,w7 ht]
    rfl
   rw [hat]
   refine ya rfl rfl (by simp) λk hk=>?_
   dsimp only
   rw [w7 hk]
   have harg:=rA (g.node t ht) k hk
   obtain ⟨b,hb⟩:=Int.eq_ofNat_of_zero_le harg.1
   rw [hb] at harg ⊢
   rw [hv] at harg
   exact ih b om om
theorem Am {g:Nat->Bool} {n:Nat}:hZ g n<n↔∃j,j<n/\g j=true:=by
 constructor
 ·intro h;exact ⟨_,h,tc h⟩
 ·rintro ⟨j,hj,h⟩
  rcases Nat.lt_or_ge (hZ g n) n with h1 | h1
  ·exact h1
  ·have:=iC (g:=g) (n:=n) (i:=j) om
   rw [h] at this;cases this
theorem we {m:GMission} (o:OkM m) (h128:(cH m).length<=128) {s:Nat} {l:List Int} (hf:Fits m s l) {j:Nat} (hj:j<m.Phases.length):at' (cq (i9 m) s (cH m).length) (at' (mr m m.Phases.length) (j:Int))=FV (at' m.Phases (j:Int)) (iX l (j:Int)):=by
 rw [zF hj]
 have g:=(o.fg j hj).1
 have ht:=g.top
 rw [(o.fg j hj).2] at ht
 obtain ⟨a,ha⟩:=Int.eq_ofNat_of_zero_le g.top0
 unfold FV
 rw [ha] at ht ⊢
 exact rj o h128 hf hj a ht
theorem yP {m:GMission} (o:OkM m) (h128:(cH m).length<=128) {s:Nat} {l:List Int} (hf:Fits m s l):FV (i9 m) s=decide (bF m l<m.Phases.length):=by
 have hk0:=o.k0
 show at' (cq (i9 m) s (cH m).length) (pt m)=_
 unfold bF
 unfold pt
 split
 ·rename_i h1
  have e:cH m=dG m m.Phases.length++[⟨3,0,mr m m.Phases.length⟩]:=by unfold cH;rw [if_pos h1]
  have hlen:(dG m m.Phases.length).length+0<(cH m).length:=by rw [e,List.length_append];simp
  unfold eX
  have:=tr o h128 s hlen
  rw [Nat.add_zero] at this
  rw [this]
  have hat:at' (cH m) ((dG m m.Phases.length).length:Int)=⟨3,0,mr m m.Phases.length⟩:=by rw [e];exact gz
  rw [hat,Ck,ge]
  refine decide_eq_decide.2 ?_
  rw [Am]
  constructor
  ·rintro ⟨j,hj,h⟩
   rw [we o h128 hf hj] at h
   exact ⟨j,hj,h⟩
  ·rintro ⟨j,hj,h⟩
   refine ⟨j,hj,?_⟩
   rw [we o h128 hf hj]
   exact h
 ·rename_i h1
  have:=we o h128 hf hk0
  have e:at' (mr m m.Phases.length) 0=at' (mr m m.Phases.length) ((0:Nat):Int):=rfl
  rw [e,this,Bool.eq_iff_iff,decide_eq_true_eq,Am]
  constructor
  ·intro h;exact ⟨0,hk0,h⟩
  ·rintro ⟨j,hj,h⟩
   obtain rfl:j=0:=om
   exact h
end Go.Gg
namespace Go.Gg
def hsL (K:Nat):Nat->List (List Int)
 | 0=>[[]]
 | i+1=>(hsL K i).flatMap λh=>(List.range (K+1)).map λj=>h++[((j:Nat):Int)]
theorem Aj {K:Nat}:∀i,(hsL K i).length=(K+1)^i
 | 0=>rfl
 | i+1=>by
  rw [hsL,List.length_flatMap]
  simp only [List.length_map,List.length_range,List.map_const',List.sum_replicate_nat]
  rw [Aj i,Nat.pow_succ]
theorem qF {K:Nat}:∀i,∀h∈hsL K i,h.length=i/\∀a:Nat,a<i->0<=at' h (a:Int)/\at' h (a:Int)<=(K:Int)
 | 0,h,hm=>by
  rw [hsL,List.mem_singleton] at hm
  subst hm
  exact ⟨rfl,λa ha=>absurd ha om⟩
 | i+1,h,hm=>by
  rw [hsL,List.mem_flatMap] at hm
  obtain ⟨h0,hm0,hm1⟩:=hm
  obtain ⟨j,hj,rfl⟩:=List.mem_map.1 hm1
  have hj:=List.mem_range.1 hj
  obtain ⟨hl,ha⟩:=qF i h0 hm0
  refine ⟨by simp [hl],λa hai=>?_⟩
  rcases Nat.lt_or_ge a i with h1 | h1
  ·rw [dE om om];exact ha a h1
  ·obtain rfl:a=i:=om
   rw [<-hl,gz];omega
def gq (m:GMission) (i:Nat):Nat->Rat
 | 0=>1
 | k+1=>gq m i k*(1-pq m i k)
def tq (m:GMission) (i j:Nat):Rat:=if j<m.Phases.length then gq m i j*pq m i j else gq m i j
theorem BP {m:GMission} {i:Nat}:∀t,t<=m.Phases.length->((List.range t).map (tq m i)).sum=1-gq m i t
 | 0,_=>by simp [gq];grind
 | t+1,ht=>by
  rw [List.range_succ,List.map_append,List.sum_append,BP t om]
  simp only [List.map_cons,List.map_nil,List.sum_cons,List.sum_nil]
  rw [tq,if_pos om,gq]
  grind
theorem Fm {m:GMission} {i:Nat}:((List.range (m.Phases.length+1)).map (tq m i)).sum=1:=by
 rw [List.range_succ,List.map_append,List.sum_append,BP _ (Nat.le_refl _)]
 simp only [List.map_cons,List.map_nil,List.sum_cons,List.sum_nil]
 rw [tq,if_neg om]
 grind
theorem Bz {m:GMission} {l:List Int} {q:Rat} {i a:Nat} (ha:at' l (i:Int)=(a:Int)):∀k,k<=a->wI m l q i k=q*gq m i k
 | 0,_=>by rw [wI,gq];grind
 | k+1,hk=>by
  rw [wI,gq,Bz ha k om,fq,if_pos om]
  grind
theorem GV {m:GMission} {l:List Int} {q:Rat} {i a:Nat} (ha:at' l (i:Int)=(a:Int)) (hK:a<=m.Phases.length):wI m l q i (cW m l i)=q*tq m i a:=by
 unfold cW tq
 rw [ha,Int.toNat_natCast]
 split
 ·rename_i h
  rw [show min (a+1) m.Phases.length=a+1 by omega,wI,Bz ha a (Nat.le_refl _),fq,if_neg om]
  grind
 ·rw [show min (a+1) m.Phases.length=a by omega,Bz ha a (Nat.le_refl _)]
theorem xd {m:GMission} {l l':List Int}:∀i,(∀a:Nat,a<i->at' l (a:Int)=at' l' (a:Int))->wM m l i=wM m l' i
 | 0,_=>rfl
 | i+1,h=>by
  have h1:=h i om
  have hI:∀q k,wI m l q i k=wI m l' q i k:=λq k=>by
   induction k with
   | zero=>rfl
   | succ k ih=>rw [wI,wI,ih,fq,fq,h1]
  rw [wM,wM,xd i (λa ha=>h a om),hI,cW,cW,h1]
theorem pU {m:GMission} {h:List Int} {i j:Nat} (hl:h.length=i) (hj:j<=m.Phases.length):wM m (h++[((j:Nat):Int)]) (i+1)=wM m h i*tq m i j:=by
 rw [wM,GV (a:=j) (by rw [<-hl,gz]) hj]
 congr 1
 exact xd i λa ha=>dE om om
theorem nO {α:Type} {f:α->Rat} {g:α->List α} {c:α->Rat}:∀l:List α,(∀x∈l,((g x).map f).sum=c x)->((l.flatMap g).map f).sum=(l.map c).sum
 | [],_=>by simp
 | x :: l,h=>by
  rw [List.flatMap_cons,List.map_append,List.sum_append,h x (by simp),nO l λy hy=>h y (by simp [hy])]
  simp
theorem sW {α:Type} {f:α->Rat} {q:Rat}:∀l:List α,(l.map λx=>q*f x).sum=q*(l.map f).sum
 | []=>by simp
 | x :: l=>by
  simp only [List.map_cons,List.sum_cons]
  rw [sW l];grind
theorem vv {m:GMission} (o:OkM m) {l:List Int}:∀i,i<=m.P.length->0<=wM m l i
 | 0,_=>by rw [wM];decide
 | i+1,hi=>by
  have h1:=vv o (l:=l) i om
  have hI:∀k,k<=m.Phases.length->0<=wI m l (wM m l i) i k:=λk=>by
   induction k with
   | zero=>intro _;exact h1
   | succ k ih=>
    intro hk
    have hp:=o.prob i om k om
    unfold fG at hp
    simp only [Bool.and_eq_true,decide_eq_true_eq] at hp
    rw [wI]
    refine Rat.mul_nonneg (ih om) ?_
    unfold fq pq
    split
    ·have:=hp.2.2
     grind
    ·exact hp.2.1
  rw [wM]
  exact hI _ (by unfold cW;omega)
theorem xR {K i n:Nat} (h:i<=n):(K+1)^i<=(K+1)^n:=Nat.pow_le_pow_right om h
end Go.Gg
namespace Go.Gg
theorem pJ {g g':Nat->Bool}:∀n,(∀k,k<n->g k=g' k)->hZ g n=hZ g' n
 | 0,_=>rfl
 | n+1,h=>by rw [hZ,hZ,pJ n λk hk=>h k om,h n om]
theorem Al {g g':Nat->Bool}:∀n,hZ (λk=>g k || g' k) n=min (hZ g n) (hZ g' n)
 | 0=>rfl
 | n+1=>by
  have h1:=nl (g:=g) n
  have h2:=nl (g:=g') n
  rw [hZ,hZ,hZ,Al n]
  by_cases ha:hZ g n=n<;>by_cases hb:hZ g' n=n
  ·rw [if_pos om,if_pos ha,if_pos hb]
   cases hg:g n<;>cases hg':g' n<;>simp<;>omega
  ·rw [if_neg om,if_pos ha,if_neg hb]
   split<;>omega
  ·rw [if_neg om,if_neg ha,if_pos hb]
   split<;>omega
  ·rw [if_neg om,if_neg ha,if_neg hb]
def kz (K:Nat) (σ:Asg) (i:Nat):Nat:=hZ (λk=>σ (i*K+k)) K
def iW (K n:Nat) (σ:Asg):List Int:=(List.range n).map λi=>((kz K σ i:Nat):Int)
theorem CO {K n:Nat} {σ:Asg}:(iW K n σ).length=n:=by simp [iW]
theorem vT {K n:Nat} {σ:Asg}:iW K (n+1) σ=iW K n σ++[((kz K σ n:Nat):Int)]:=by simp [iW,List.range_succ]
theorem Ak {K n i:Nat} {σ:Asg} (h:i<n):at' (iW K n σ) (i:Int)=((kz K σ i:Nat):Int):=cp h
theorem Eb {K i:Nat} {σ:Asg}:kz K σ i<=K:=nl K
theorem qG {K:Nat} {σ:Asg}:∀n,iW K n σ∈hsL K n
 | 0=>by simp [iW,hsL]
 | n+1=>by
  rw [vT,hsL,List.mem_flatMap]
  exact ⟨_,qG n,List.mem_map.2 ⟨_,List.mem_range.2 (by have:=Eb (K:=K) (i:=n) (σ:=σ);omega),rfl⟩⟩
theorem zd {K i:Nat} {σ σ':Asg} (h:∀k,k<K->σ (i*K+k)=σ' (i*K+k)):kz K σ i=kz K σ' i:=pJ K h
theorem uf {K n:Nat} {σ σ':Asg} (h:∀i,i<n->kz K σ i=kz K σ' i):iW K n σ=iW K n σ':=
 List.map_congr_left λi hi=>by rw [h i (List.mem_range.1 hi)]
theorem CP {K n i:Nat} {σ σ':Asg} (h:iW K n σ=iW K n σ') (hi:i<n):kz K σ i=kz K σ' i:=by
 have:=congrArg (λl=>at' l (i:Int)) h
 simp only [Ak hi] at this
 omega
theorem CN {l:List (List Int)} {a b:List Int} (ha:a∈l) (hb:b∈l) (h:l.idxOf a=l.idxOf b):a=b:=by
 have h1:l[l.idxOf a]? = some a:=by rw [List.getElem?_eq_getElem (List.idxOf_lt_length_of_mem ha),List.getElem_idxOf]
 have h2:l[l.idxOf b]? = some b:=by rw [List.getElem?_eq_getElem (List.idxOf_lt_length_of_mem hb),List.getElem_idxOf]
 rw [h,h2] at h1
 exact (Option.some.inj h1).symm
theorem EE.his {o:List Int} {F:Asg->Bool} {K n:Nat} (hF:∀σ σ',iW K n σ=iW K n σ'->F σ=F σ'):EE o F ((K+1)^n):=by
 refine λk=>⟨λσ=>(hsL K n).idxOf (iW K n (nJ o k σ λ_=>false)),λσ=>?_,λσ σ' h ρ=>hF _ _ (uf λi hi=>?_)⟩
 ·rw [<-Aj]
  exact List.idxOf_lt_length_of_mem (qG n)
 ·have e:=CP (CN (qG n) (qG n) h) hi
  have split:∀σ:Asg,kz K (nJ o k σ ρ) i=min (kz K (nJ o k σ λ_=>false) i) (kz K (nJ o k (λ_=>false) ρ) i):=λσ=>by
   unfold kz
   rw [<-Al]
   refine pJ K λa _=>?_
   simp only [nJ]
   split<;>simp
  rw [split σ,split σ',e]
def pA (m:GMission) (v:Nat):Rat:=pq m (v / m.Phases.length) (v % m.Phases.length)
section
variable {m:GMission}
theorem Gr {i k:Nat} (hk:k<m.Phases.length):pA m (i*m.Phases.length+k)=pq m i k:=by
 unfold pA
 have h1:(i*m.Phases.length+k) / m.Phases.length=i:=by
  rw [Nat.mul_comm,Nat.mul_add_div om,Nat.div_eq_of_lt hk,Nat.add_zero]
 have h2:(i*m.Phases.length+k) % m.Phases.length=k:=by
  rw [Nat.mul_comm,Nat.mul_add_mod,Nat.mod_eq_of_lt hk]
 rw [h1,h2]
theorem blk {i:Nat} {H:Nat->Rat}:∀d k,k+d=m.Phases.length->∀τ:Asg,(∀j,j<k->τ (i*m.Phases.length+j)=false)->
  gq m i k*ex (pA m) (List.range' (i*m.Phases.length+k) d) (λτ'=>H (kz m.Phases.length τ' i)) τ+((List.range k).map λj=>tq m i j*H j).sum=((List.range (m.Phases.length+1)).map λj=>tq m i j*H j).sum
 | 0,k,hk,τ,ht=>by
  have e:kz m.Phases.length τ i=m.Phases.length:=oO _ λj hj=>ht j om
  rw [List.range'_zero,ex,e,List.range_succ,List.map_append,List.sum_append,show k=m.Phases.length by omega]
  simp only [List.map_cons,List.map_nil,List.sum_cons,List.sum_nil]
  rw [tq,if_neg om]
  grind
 | d+1,k,hk,τ,ht=>by
  have h1:=blk (i:=i) (H:=H) d (k+1) om (cr τ (i*m.Phases.length+k) false) λj hj=>by
   rcases Nat.lt_or_ge j k with h | h
   ·rw [fU om];exact ht j h
   ·obtain rfl:j=k:=om
    rw [eZ]
  have h2:ex (pA m) (List.range' (i*m.Phases.length+k+1) d) (λτ'=>H (kz m.Phases.length τ' i)) (cr τ (i*m.Phases.length+k) true)=H k:=by
   have hc:=qO (p:=pA m) (List.range' (i*m.Phases.length+k+1) d) (g:=λτ'=>H (kz m.Phases.length τ' i)) (g':=λ_=>H k) (σ:=cr τ (i*m.Phases.length+k) true) λτ' hτ=>by
    have hb:∀j,j<=k->τ' (i*m.Phases.length+j)=cr τ (i*m.Phases.length+k) true (i*m.Phases.length+j):=λj hj=>hτ _ (by rw [List.mem_range'_1];omega)
    have e:kz m.Phases.length τ' i=k:=uh (λj hj=>by rw [hb j om,fU om];exact ht j hj) (by rw [hb k (Nat.le_refl _),eZ]) _ om
    rw [e]
   rw [hc,og]
  rw [List.range'_succ,ex,h2,Gr om]
  rw [List.range_succ,List.map_append,List.sum_append] at h1
  simp only [List.map_cons,List.map_nil,List.sum_cons,List.sum_nil] at h1
  rw [<-h1,gq,<-Nat.add_assoc,show tq m i k=gq m i k*pq m i k by unfold tq;rw [if_pos om]]
  grind
theorem CU:∀n (G:List Int->Rat) (σ:Asg),ex (pA m) (List.range (n*m.Phases.length)) (λτ=>G (iW m.Phases.length n τ)) σ=((hsL m.Phases.length n).map λh=>wM m h n*G h).sum
 | 0,G,σ=>by
  simp only [Nat.zero_mul,List.range_zero,ex,iW,hsL,List.map_nil,List.map_cons,List.sum_cons,List.sum_nil,wM]
  grind
 | n+1,G,σ=>by
  have er:List.range ((n+1)*m.Phases.length)=List.range (n*m.Phases.length)++List.range' (n*m.Phases.length) m.Phases.length:=by
   rw [Nat.succ_mul,List.range_add,List.range'_eq_map_range]
  have hb:∀τ:Asg,ex (pA m) (List.range' (n*m.Phases.length) m.Phases.length) (λτ'=>G (iW m.Phases.length (n+1) τ')) τ=(λh=>((List.range (m.Phases.length+1)).map λj=>tq m n j*G (h++[((j:Nat):Int)])).sum) (iW m.Phases.length n τ):=λτ=>by
   have h1:=qO (p:=pA m) (List.range' (n*m.Phases.length) m.Phases.length) (g:=λτ'=>G (iW m.Phases.length (n+1) τ')) (g':=λτ'=>(λj:Nat=>G (iW m.Phases.length n τ++[(j:Int)])) (kz m.Phases.length τ' n)) (σ:=τ) λτ' hτ=>by
    have e:iW m.Phases.length n τ'=iW m.Phases.length n τ:=uf λi hi=>zd λk hk=>hτ _ (by
     have:=nk (K:=m.Phases.length) hi
     rw [List.mem_range'_1];omega)
    rw [vT,e]
   have h2:=blk (m:=m) (i:=n) (H:=λj=>G (iW m.Phases.length n τ++[(j:Int)])) m.Phases.length 0 om τ λj hj=>absurd hj om
   rw [h1]
   simp only [gq,List.range_zero,List.map_nil,List.sum_nil,Nat.add_zero] at h2
   refine Eq.trans ?_ h2
   grind
  have hn:=CU n (λh=>((List.range (m.Phases.length+1)).map λj=>tq m n j*G (h++[((j:Nat):Int)])).sum) σ
  rw [er,zl,nm _ hb]
  refine Eq.trans hn ?_
  rw [hsL]
  rw [nO (c:=λh=>wM m h n*((List.range (m.Phases.length+1)).map λj=>tq m n j*G (h++[((j:Nat):Int)])).sum) _ λh hm=>?_]
  have hl:=(qF n h hm).1
  rw [List.map_map,<-sW]
  congr 1
  refine List.map_congr_left λj hj=>?_
  show wM m (h++[((j:Nat):Int)]) (n+1)*G (h++[((j:Nat):Int)])=_
  rw [pU hl (by have:=List.mem_range.1 hj;omega)]
  grind
end
end Go.Gg
namespace Go.Gg
section
variable {m:GMission}
theorem ue {σ:Asg}:Fits m (i5 σ (m.P.length*m.Phases.length)) (iW m.Phases.length m.P.length σ):=by
 refine ⟨CO,λi hi j hj=>?_⟩
 have hx:=nk (i:=i) (n:=m.P.length) (K:=m.Phases.length) hi
 rw [Ak hi]
 constructor
 ·intro h
  have h1:kz m.Phases.length σ i<m.Phases.length:=om
  refine ⟨kz m.Phases.length σ i,by omega,?_⟩
  rw [wY om]
  exact tc (g:=λk=>σ (i*m.Phases.length+k)) h1
 ·rintro ⟨k,hk,h⟩
  rw [wY om] at h
  rcases Nat.lt_or_ge j (kz m.Phases.length σ i) with h1 | h1
  ·have:=iC (g:=λk=>σ (i*m.Phases.length+k)) (n:=m.Phases.length) (i:=k) (by unfold kz at h1;omega)
   rw [h] at this;cases this
  ·omega
theorem uF:∀J t,t<(dG m J).length->t<m.P.length*(m.Phases.length-1)\/∃j u,j<J/\t=(dG m j).length+u/\u<(at' m.Phases (j:Int)).Nodes.length
 | 0,t,h=>by rw [dG,gZ] at h;exact .inl h
 | J+1,t,h=>by
  rcases Nat.lt_or_ge t (dG m J).length with h1 | h1
  ·rcases uF J t h1 with h2 | ⟨j,u,hj,h3⟩
   ·exact .inl h2
   ·exact .inr ⟨j,u,by omega,h3⟩
  ·rw [dG,List.length_append,phN,List.length_map] at h
   exact .inr ⟨J,t-(dG m J).length,by omega,by omega,by omega⟩
theorem BL (o:OkM m) (h128:(cH m).length<=128) {s s':Nat} {l:List Int} (hf:Fits m s l) (hf':Fits m s' l) {t:Nat} (ht:t<(cH m).length) :
  at' (cq (i9 m) s (cH m).length) ((m.P.length*m.Phases.length:Nat)+(t:Int))=at' (cq (i9 m) s' (cH m).length) ((m.P.length*m.Phases.length:Nat)+(t:Int)):=by
 have he:=o.ev
 have main:t<(dG m m.Phases.length).length->at' (cq (i9 m) s (cH m).length) ((m.P.length*m.Phases.length:Nat)+(t:Int))=at' (cq (i9 m) s' (cH m).length) ((m.P.length*m.Phases.length:Nat)+(t:Int)):=λhall=>by
  rcases uF _ t hall with h | ⟨j,u,hj,rfl,hu⟩
  ·have hk1:0<m.Phases.length-1:=by
    rcases Nat.eq_zero_or_pos (m.Phases.length-1) with h0 | h0
    ·rw [h0,Nat.mul_zero] at h;omega
    ·exact h0
   have hi:t / (m.Phases.length-1)<m.P.length:=Nat.div_lt_of_lt_mul (by rw [Nat.mul_comm];exact h)
   have hm:=Nat.mod_lt t hk1
   have hdm:=Nat.div_add_mod t (m.Phases.length-1)
   rw [Nat.mul_comm] at hdm
   have e:((m.P.length*m.Phases.length:Nat):Int)+(t:Int)=byv m.P.length m.Phases.length (t / (m.Phases.length-1)) (t % (m.Phases.length-1)+1):=by
    unfold byv
    rw [if_neg om]
    generalize t / (m.Phases.length-1)*(m.Phases.length-1)=z at hdm ⊢
    omega
   rw [e,yO o h128 s hi om,yO o h128 s' hi om]
   exact decide_eq_decide.2 ((hf.2 _ hi _ om).symm.trans (hf'.2 _ hi _ om))
  ·have hv:=(o.fg j hj).2
   have e:((m.P.length*m.Phases.length:Nat):Int)+(((dG m j).length+u:Nat):Int)=mv m.P.length m.Phases.length j (eX m j) ((m.P.length+u:Nat):Int):=by
    unfold mv eX
    rw [if_neg om]
    omega
   rw [e,rj o h128 hf hj _ om,rj o h128 hf' hj _ om]
 rcases Nat.lt_or_ge t (dG m m.Phases.length).length with h | h
 ·exact main h
 ·have h1:1<m.Phases.length:=by
   rcases Nat.lt_or_ge 1 m.Phases.length with h1 | h1
   ·exact h1
   ·exfalso
    unfold cH at ht
    rw [if_neg om] at ht
    omega
  have e:((m.P.length*m.Phases.length:Nat):Int)+(t:Int)=pt m:=by
   unfold cH at ht
   rw [if_pos h1,List.length_append,List.length_singleton] at ht
   unfold pt eX
   rw [if_pos h1]
   omega
  have e1:=yP o h128 hf
  have e2:=yP o h128 hf'
  rw [e]
  exact e1.trans e2.symm
theorem pp:(i9 m).Vars.toNat=m.P.length*m.Phases.length:=by show Int.toNat ((m.P.length*m.Phases.length:Nat):Int)=_;omega
theorem AM (o:OkM m) (h128:(cH m).length<=128) {t:Nat} (ht:t<(cH m).length) {σ σ':Asg} (h:iW m.Phases.length m.P.length σ=iW m.Phases.length m.P.length σ'):n9 (i9 m) t σ=n9 (i9 m) t σ':=by
 unfold n9
 rw [pp]
 have hf':=ue (m:=m) (σ:=σ')
 rw [<-h] at hf'
 exact BL o h128 ue hf' ht
theorem Fl (o:OkM m) (h128:(cH m).length<=128) {σ:Asg}:fF (i9 m) σ=decide (bF m (iW m.Phases.length m.P.length σ)<m.Phases.length):=by
 unfold fF
 rw [pp]
 exact yP o h128 ue
def eV (m:GMission):Rat:=((hsL m.Phases.length m.P.length).map λh=>wM m h m.P.length*b2q (decide (bF m h<m.Phases.length))).sum
theorem BN (o:OkM m) (h128:(cH m).length<=128):exF (pA m) (i9 m)=eV m:=by
 unfold exF eV
 rw [pp,nm _ (g':=λτ=>(λh=>b2q (decide (bF m h<m.Phases.length))) (iW m.Phases.length m.P.length τ)) λτ=>by rw [Fl o h128]]
 exact CU m.P.length (λh=>b2q (decide (bF m h<m.Phases.length))) _
theorem wh (o:OkM m) {i k:Nat} (hk:k<m.Phases.length):∀n,n<=m.P.length->i<n->at' (oU m n) ((i*m.Phases.length+k:Nat):Int)=at' (at' m.P (i:Int)) (k:Int)
 | 0,_,h=>absurd h om
 | n+1,hn,h=>by
  have hl:=o.unfP_len n om
  rw [oU]
  rcases Nat.lt_or_ge i n with h1 | h1
  ·have hx:=nk (K:=m.Phases.length) h1
   rw [dE om om]
   exact wh o hk n om h1
  ·obtain rfl:i=n:=om
   rw [<-hl,kC]
theorem BO (o:OkM m):PL (oU m m.P.length) (pA m) (m.P.length*m.Phases.length):=by
 have hk0:=o.k0
 have split:∀v,v<m.P.length*m.Phases.length->v / m.Phases.length<m.P.length/\v % m.Phases.length<m.Phases.length/\v=v / m.Phases.length*m.Phases.length+v % m.Phases.length:=λv hv=>
  ⟨Nat.div_lt_of_lt_mul (by rw [Nat.mul_comm];exact hv),Nat.mod_lt _ hk0,by have:=Nat.div_add_mod v m.Phases.length;rw [Nat.mul_comm] at this;omega⟩
 refine ⟨o.unfP_len _ (Nat.le_refl _),λv hv=>?_,λv hv=>?_⟩
 ·obtain ⟨h1,h2,h3⟩:=split v hv
  have e:at' (oU m m.P.length) (v:Int)=at' (at' m.P ((v / m.Phases.length:Nat):Int)) ((v % m.Phases.length:Nat):Int):=by
   have:=wh o h2 m.P.length (Nat.le_refl _) h1
   rw [<-h3] at this
   exact this
  rw [e]
  exact o.pRp h1 h2
 ·obtain ⟨h1,h2,h3⟩:=split v hv
  have hp:=o.prob _ h1 _ h2
  unfold fG at hp
  simp only [Bool.and_eq_true,decide_eq_true_eq] at hp
  exact hp.2
theorem BM (o:OkM m) {v:Nat} (hv:v<m.P.length*m.Phases.length):fG (at' (oU m m.P.length) (v:Int))=true:=by
 have hk0:=o.k0
 have h1:v / m.Phases.length<m.P.length:=Nat.div_lt_of_lt_mul (by rw [Nat.mul_comm];exact hv)
 have h2:=Nat.mod_lt v hk0
 have h3:v=v / m.Phases.length*m.Phases.length+v % m.Phases.length:=by have:=Nat.div_add_mod v m.Phases.length;rw [Nat.mul_comm] at this;omega
 have:=wh o h2 m.P.length (Nat.le_refl _) h1
 rw [<-h3] at this
 rw [this]
 exact o.prob _ h1 _ h2
theorem sZ (o:OkM m) (h128:(cH m).length<=128):rng (i9 m).Top:=by
 have g:=yQ o h128
 have:=g.top0;have:=g.top;have:=g.v24;have:=g.n128
 unfold rng;omega
theorem zj:∀K,K<7->∀n,n<25->(K+1)^n<=300->n*K*(K+1)^n<=4096:=by decide +kernel
theorem AR (o:OkM m) (h128:(cH m).length<=128) (h300:(m.Phases.length+1)^m.P.length<=300) {ord:List Int} (hl:(ord.length:Int)=(i9 m).Vars) {t:Nat} (ht:t<(cH m).length):oT ord (n9 (i9 m) t):=by
 refine .fin (c:=(m.Phases.length+1)^m.P.length) (.his λσ σ' h=>AM o h128 ht h) ?_
 have h6:=o.k6
 have h24:=o.p24
 have e:ord.length=m.P.length*m.Phases.length:=by have:=pp (m:=m);omega
 rw [e]
 exact zj _ om _ om h300
theorem tm {Q:GRat->Option Int->Prop} (w:WrM m) (hf:FrM m) (h1:fp m≠0->Q ⟨false,[],[]⟩ (some (fp m))) (h4:fp m=0->128<(cH m).length->Q ⟨false,[],[]⟩ (some 4))
  (hS:fp m=0->(cH m).length<=128->(m.Phases.length+1)^m.P.length<=300\/Q ⟨false,[],[]⟩ (some 4)) (h2:fp m=0->(cH m).length<=128->Rp 4000 (bj (eV m)) (eV m)->Q (bj (eV m)) none):eN m Q:=by
 refine sJ w hf (λhe=>bg (λ_=>h1 he) (λhc=>by cases hc)) (λhe hl=>bg (λ_=>h4 he hl) (λhc=>by cases hc)) (λhe hl=>bg (λhc=>by cases hc) (λ_=>?_))
 have o:=okM w hf he
 have hQ:=h2 he hl
 rw [<-BN o hl] at hQ
 have g:=yQ o hl
 have hb:∀i:Nat,i<(i9 m).Vars.toNat->fG (at' (oU m m.P.length) (i:Int))=true:=λi hi=>BM o (by rw [pp] at hi;exact hi)
 have hp:PL (oU m m.P.length) (pA m) (i9 m).Vars.toNat:=by rw [pp];exact BO o
 rcases hS he hl with h300 | h300
 ·exact E6 g (sZ o hl) hp hb (λord hO hlo Q' _ hQ'=>nI (sZ o hl) (λhne=>absurd (oq.2 ⟨g,hO,hlo⟩) hne) (λ_=>.inl λi hi=>AR o hl h300 hlo hi) λ_=>hQ') hQ
 ·exact E6 g (sZ o hl) hp hb (λord hO hlo Q' h4' hQ'=>nI (sZ o hl) (λhne=>absurd (oq.2 ⟨g,hO,hlo⟩) hne) (λ_=>.inr (h4' h300)) λ_=>hQ') hQ
end
end Go.Gg
namespace Go.Gg
def rs (f:Nat->Rat) (n:Nat):Rat:=((List.range n).map f).sum
theorem fV {f:Nat->Rat} {n:Nat}:rs f (n+1)=rs f n+f n:=by
 unfold rs
 rw [List.range_succ,List.map_append,List.sum_append]
 simp only [List.map_cons,List.map_nil,List.sum_cons,List.sum_nil]
 grind
theorem oG {f:Nat->Rat}:rs f 0=0:=rfl
theorem B' {f:Nat->Rat} {a:Nat}:∀b,rs f (a+b)=rs f a+rs (λy=>f (a+y)) b
 | 0=>by rw [Nat.add_zero,oG];grind
 | b+1=>by rw [<-Nat.add_assoc,fV,B' b,fV];grind
theorem B9 {f:Nat->Rat} {b:Nat}:∀a,rs f (a*b)=rs (λj=>rs (λy=>f (j*b+y)) b) a
 | 0=>by rw [Nat.zero_mul];rfl
 | a+1=>by rw [Nat.succ_mul,B',B9 a,fV]
theorem mu {f g:Nat->Rat}:∀n,(∀i,i<n->f i=g i)->rs f n=rs g n
 | 0,_=>rfl
 | n+1,h=>by rw [fV,fV,mu n λi hi=>h i om,h n om]
theorem zT {α:Type} {f:Nat->α->Rat} {l:List α}:∀n,rs (λj=>(l.map (f j)).sum) n=(l.map λx=>rs (λj=>f j x) n).sum
 | 0=>by
  induction l with
  | nil=>rfl
  | cons x l ih=>simp only [List.map_cons,List.sum_cons];rw [<-ih,oG,oG,oG];grind
 | n+1=>by
  rw [fV,zT n]
  induction l with
  | nil=>simp only [List.map_nil,List.sum_nil];grind
  | cons x l ih=>
   simp only [List.map_cons,List.sum_cons]
   rw [fV,<-ih];grind
def dig (K n x:Nat):List Int:=(List.range n).map λi=>((x / (K+1)^i % (K+1):Nat):Int)
theorem qS {K n x:Nat}:(dig K n x).length=n:=by simp [dig]
theorem CX {K n x i:Nat} (h:i<n):at' (dig K n x) (i:Int)=((x / (K+1)^i % (K+1):Nat):Int):=cp h
theorem CW {K n j y:Nat} (hj:j<=K) (hy:y<(K+1)^n):dig K (n+1) (j*(K+1)^n+y)=dig K n y++[(j:Int)]:=by
 unfold dig
 rw [List.range_succ,List.map_append]
 congr 1
 ·refine List.map_congr_left λi hi=>?_
  have hi:=List.mem_range.1 hi
  have e:j*(K+1)^n+y=(K+1)^i*((K+1)*(j*(K+1)^(n-i-1)))+y:=by
   rw [show n=i+(1+(n-i-1)) by omega,Nat.pow_add,Nat.pow_add,Nat.pow_one,show i+(1+(n-i-1))-i-1=n-i-1 by omega]
   congr 1
   rw [Nat.mul_left_comm,Nat.mul_left_comm j]
  rw [e,Nat.mul_add_div (Nat.pow_pos om),Nat.mul_add_mod]
 ·rw [List.map_cons,List.map_nil,Nat.mul_comm,Nat.mul_add_div (Nat.pow_pos om),Nat.div_eq_of_lt hy,Nat.add_zero,Nat.mod_eq_of_lt om]
theorem Ax {K:Nat}:∀n (g:List Int->Rat),rs (λx=>g (dig K n x)) ((K+1)^n)=((hsL K n).map g).sum
 | 0,g=>by simp [rs,hsL,dig]
 | n+1,g=>by
  rw [Nat.pow_succ,Nat.mul_comm,B9]
  rw [mu (g:=λj=>((hsL K n).map λh=>g (h++[(j:Int)])).sum) (K+1) λj hj=>?_]
  ·rw [zT,hsL,nO (c:=λh=>rs (λj=>g (h++[(j:Int)])) (K+1)) _ λh _=>?_]
   rw [List.map_map];rfl
  ·rw [<-Ax n]
   exact mu _ λy hy=>by rw [CW om hy]
section
variable {m:GMission}
theorem F0 {x:Nat}:OkH m (dig m.Phases.length m.P.length x):=by
 refine ⟨qS,λi hi=>?_⟩
 rw [qS] at hi
 rw [CX hi]
 have:=Nat.mod_lt (x / (m.Phases.length+1)^i) (show 0<m.Phases.length+1 by omega)
 omega
def eT (m:GMission) (j:Nat) (h:List Int):Rat:=wM m h m.P.length*b2q (decide (bF m h=j))
def qR (m:GMission) (j:Nat):Rat:=((hsL m.Phases.length m.P.length).map (eT m j)).sum
def qm (K:Nat) (S:Nat->Rat):List GRat:=(List.range K).map λj=>bj (S j)
theorem mC {K:Nat} {S:Nat->Rat}:(qm K S).length=K:=by simp [qm]
theorem s8 {K j:Nat} {S:Nat->Rat} (h:j<K):at' (qm K S) (j:Int)=bj (S j):=cp h
theorem AY {K:Nat}:bu ((K:Nat):Int) (⟨false,[],[]⟩:GRat)=qm K (λ_=>0):=by
 refine sr (by rw [mC];simp [bu]) λi hi=>?_
 have hi:i<K:=by simpa [bu] using hi
 rw [s8 hi,yU om]
 simp [bj]
theorem tZ {K:Nat} {S S':Nat->Rat} (h:∀a,a<K->S a=S' a):qm K S=qm K S':=List.map_congr_left λa ha=>by rw [h a (List.mem_range.1 ha)]
theorem Ci {K j:Nat} {S S':Nat->Rat} (hj:j<K) (h:∀a,a<K->a≠j->S a=S' a):bq (qm K S) (j:Int) (bj (S' j))=qm K S':=by
 refine sr (by rw [dJ,mC,mC]) λi hi=>?_
 rw [dJ,mC] at hi
 rw [gy (by rw [mC];exact hj),s8 hi,s8 hi]
 split
 ·rename_i e;rw [e]
 ·rename_i e;rw [h i hi e]
theorem FZ {h:List Int}:eT m (bF m h) h=wM m h m.P.length:=by
 unfold eT
 rw [decide_eq_true rfl]
 show _*(1:Rat)=_
 grind
theorem Av {j:Nat} {h:List Int} (hj:j≠bF m h):eT m j h=0:=by
 unfold eT
 rw [decide_eq_false (λe=>hj e.symm)]
 show _*(0:Rat)=_
 grind
def ny (m:GMission) (l:Nat->List Int) (i j:Nat):Rat:=rs (λx=>eT m j (l x)) i
structure Acc (m:GMission) (l:Nat->List Int) (i:Nat) (out:List GRat):Prop where
 eq:out=qm m.Phases.length (ny m l i)
 rp:∀j,j<m.Phases.length->Rp (64+i*100001) (bj (ny m l i j)) (ny m l i j)
theorem Acc.zero {l:Nat->List Int} {out:List GRat} (h:out=qm m.Phases.length (λ_=>0)):Acc m l 0 out:=⟨h,λj _=>by
 have:ny m l 0 j=0:=rfl
 rw [this]
 simpa [bj] using Rp.zero (k:=64) (by decide) (by decide)⟩
theorem Acc.skip {l:Nat->List Int} {i:Nat} {out:List GRat} (h:Acc m l i out) (hr:m.Phases.length<=bF m (l i)) (_hi:i<=1000):Acc m l (i+1) out:=by
 have e:∀j,j<m.Phases.length->ny m l (i+1) j=ny m l i j:=λj hj=>by
  unfold ny
  rw [fV,Av om]
  grind
 refine ⟨h.eq.trans (tZ λa ha=>(e a ha).symm),λj hj=>?_⟩
 rw [e j hj]
 exact (h.rp j hj).mono om
theorem Di {l:Nat->List Int} {i:Nat}:ny m l i (bF m (l i))+wM m (l i) m.P.length=ny m l (i+1) (bF m (l i)):=by
 unfold ny
 rw [fV,FZ]
theorem Acc.hit {l:Nat->List Int} {i:Nat} {out:List GRat} (h:Acc m l i out) (hr:bF m (l i)<m.Phases.length) (_hi:i<=1000) (hR:Rp (64+i*100001+100000+1) (bj (ny m l (i+1) (bF m (l i)))) (ny m l (i+1) (bF m (l i)))) :
  Acc m l (i+1) (bq out ((bF m (l i):Nat):Int) (bj (ny m l (i+1) (bF m (l i))))):=by
 have e:∀j,j≠bF m (l i)->ny m l (i+1) j=ny m l i j:=λj hj=>by
  unfold ny
  rw [fV,Av hj]
  grind
 refine ⟨by rw [h.eq];exact Ci (S':=ny m l (i+1)) hr λa _ hne=>(e a hne).symm,λj hj=>?_⟩
 by_cases hje:j=bF m (l i)
 ·rw [hje];exact hR.mono om
 ·rw [e j hje];exact (h.rp j hj).mono om
theorem oX {Q:List GRat->Option Int->Prop} (w:WrM m) (hf:FrM m) (h1:fp m≠0->Q [] (some (fp m))) (h4:fp m=0->4096<(m.Phases.length+1)^m.P.length->Q [] (some 4))
  (hfew:fp m=0->(m.Phases.length+1)^m.P.length<=300\/4096<(m.Phases.length+1)^m.P.length) (h2:fp m=0->(m.Phases.length+1)^m.P.length<=300->Q (qm m.Phases.length (qR m)) none):gP m Q:=by
 refine iT w hf ?_
 rw [dD]
 refine condT (λhe=>?_) (λhe=>?_)
 ·rw [qP he];exact h1 he
 have he:=Classical.not_not.1 he
 have o:=okM w hf he
 have hp:=o.p24
 have hk6:=o.k6
 have h4:=h4 he
 have h2:=h2 he
 refine dO (n:=m.P.length) (λi (y:Int×Int)=>y=((((m.Phases.length+1)^i:Nat):Int),(i:Int))/\(m.Phases.length+1)^i<=4096) (λy=>y.2) 0 (λi y h=>by rw [h.1];simp) ⟨by simp,by simp⟩ ?_ ?_
 ·rintro i _ next hi ⟨rfl,hI⟩ hn
  have e:(((m.Phases.length+1)^i:Nat):Int)*((m.Phases.length:Int)+1)=(((m.Phases.length+1)^(i+1):Nat):Int):=by rw [Nat.pow_succ];simp
  have hb:(m.Phases.length+1)^(i+1)<=4096*7:=by rw [Nat.pow_succ];exact Nat.mul_le_mul hI om
  have hg:=xR (K:=m.Phases.length) (show i+1<=m.P.length from hi)
  refine condT (λ_=>?_) (λhc=>absurd (show (i:Int)<(m.P.length:Int) by omega) hc)
  rw [e]
  refine ⟨by unfold rng;omega,by generalize (m.Phases.length+1)^(i+1)=z at hb;unfold rng;omega,condT (λhc=>h4 om) (λhc=>⟨by unfold rng;omega,hn _ ⟨rfl,by omega⟩⟩)⟩
 rintro _ next ⟨rfl,hI⟩
 have h300:(m.Phases.length+1)^m.P.length<=300:=by rcases hfew he with h | h<;>omega
 have h2:=h2 h300
 refine condT (λhc=>absurd hc om) (λ_=>⟨⟨by omega,by omega,by omega,by omega⟩,?_⟩)
 refine dO (n:=(m.Phases.length+1)^m.P.length) (λi (y:Int×List GRat)=>y.1=(i:Int)/\Acc m (dig m.Phases.length m.P.length) i y.2) (λy=>y.1) 0 (λi y h=>by rw [h.1];simp) ⟨rfl,.zero AY⟩ ?_ ?_
 ·rintro x ⟨x1,out⟩ next2 hx ⟨hx1,hA⟩ hn2
  dsimp only at hx1 hA
  subst hx1
  have hlen:out.length=m.Phases.length:=by rw [hA.eq,mC]
  refine condT (λ_=>⟨⟨by omega,by omega,by omega,by omega⟩,?_⟩) (λhc=>absurd (show (x:Int)<(((m.Phases.length+1)^m.P.length:Nat):Int) by omega) hc)
  have ek:((m.Phases.length:Int)+1)=((m.Phases.length+1:Nat):Int):=by simp
  refine dO (n:=m.P.length) (λi (y:Int×Int×List Int)=>(y.1=((x / (m.Phases.length+1)^i:Nat):Int)/\y.2.1=(i:Int)/\y.2.2.length=m.P.length)/\∀a:Nat,a<i->at' y.2.2 (a:Int)=((x / (m.Phases.length+1)^a % (m.Phases.length+1):Nat):Int)) (λy=>y.2.1) 0 (λi y h=>by rw [h.1.2.1];simp) ⟨⟨by simp,rfl,by simp [bu]⟩,λa ha=>absurd ha om⟩ ?_ ?_
  ·rintro i ⟨number,x2,hh⟩ next3 hi ⟨⟨e1,e2,e3⟩,hI⟩ hn3
   dsimp only at e1 e2 e3 hI
   subst e1 e2
   have hle:=Nat.div_le_self x ((m.Phases.length+1)^i)
   have hle2:=Nat.div_le_self (x / (m.Phases.length+1)^i) (m.Phases.length+1)
   have ed:Int.tdiv ((x / (m.Phases.length+1)^i:Nat):Int) ((m.Phases.length+1:Nat):Int)=((x / (m.Phases.length+1)^(i+1):Nat):Int):=by
    rw [Nat.pow_succ,<-Nat.div_div_eq_div_mul];rfl
   have em:Int.tmod ((x / (m.Phases.length+1)^i:Nat):Int) ((m.Phases.length+1:Nat):Int)=((x / (m.Phases.length+1)^i % (m.Phases.length+1):Nat):Int):=rfl
   have hle3:x / (m.Phases.length+1)^(i+1)<=x:=Nat.div_le_self x _
   refine condT (λ_=>?_) (λhc=>absurd (show (i:Int)<((Int.toNat (m.P.length:Int)):Int) by omega) hc)
   rw [ek,ed,em]
   refine ⟨by unfold rng;omega,by omega,by unfold rng;omega,⟨by omega,by generalize x / (m.Phases.length+1)^(i+1)=z at hle3;unfold rng;omega⟩,⟨by omega,by omega⟩,by unfold rng;omega,hn3 _ ⟨⟨rfl,rfl,by dsimp only;rw [dJ];exact e3⟩,λa ha=>?_⟩⟩
   dsimp only
   rw [gy om]
   split
   ·rename_i e;rw [e]
   ·exact hI a om
  ·rintro ⟨number,x2,hh⟩ next3 ⟨⟨e1,e2,e3⟩,hI⟩
   dsimp only at e1 e2 e3 hI
   subst e1 e2
   have ehh:hh=dig m.Phases.length m.P.length x:=sr (by rw [qS,e3]) λa ha=>by rw [hI a om,CX om]
   subst ehh
   have hE:=Gt he (F0 (m:=m) (x:=x))
   have hll:(dig m.Phases.length m.P.length x).length<=9223372036854775807:=by rw [qS];omega
   refine condT (λhc=>absurd hc om) (λ_=>tW w hf hll (λhne=>absurd hE hne) λ_=>bg (λhc=>by cases hc) (λ_=>bO (λhr=>?_) (λhr=>?_)))
   ·exact ⟨by unfold rng;omega,hn2 _ ⟨rfl,hA.skip om om⟩⟩
   ·have hfl:bF m (dig m.Phases.length m.P.length x)<m.Phases.length:=by
     have:=nl (g:=λj=>FV (at' m.Phases (j:Int)) (iX (dig m.Phases.length m.P.length x) (j:Int))) m.Phases.length
     have:bF m (dig m.Phases.length m.P.length x)<=m.Phases.length:=this
     omega
    refine sI w hf hll (λhne=>absurd hE hne) λ_ hw=>bg (λhc=>by cases hc) (λ_=>⟨⟨by omega,by omega⟩,?_⟩)
    rw [qS] at hw ⊢
    have hat:at' out ((bF m (dig m.Phases.length m.P.length x):Nat):Int)=bj (ny m (dig m.Phases.length m.P.length) x (bF m (dig m.Phases.length m.P.length x))):=by rw [hA.eq,s8 hfl]
    rw [hat]
    refine Dg (hA.rp _ hfl) hw (by simp only [cap];omega) λhR=>⟨⟨by omega,by omega⟩,by unfold rng;omega,hn2 _ ⟨rfl,?_⟩⟩
    rw [Di] at hR ⊢
    exact hA.hit hfl om hR
 ·rintro ⟨x1,out⟩ next2 ⟨hx1,hA⟩
  dsimp only at hx1 hA
  subst hx1
  refine condT (λhc=>absurd hc om) (λ_=>?_)
  rw [hA.eq]
  have e:qm m.Phases.length (ny m (dig m.Phases.length m.P.length) ((m.Phases.length+1)^m.P.length))=qm m.Phases.length (qR m):=tZ λa _=>Ax _ _
  rw [e]
  exact h2
end
end Go.Gg
namespace Go.Gg
section
variable {m:GMission}
theorem lV {Q:Int->Prop} (o:OkM m) (h1:(m.Phases.length+1)^m.P.length<=4096->Q (((m.Phases.length+1)^m.P.length:Nat):Int)) (h2:4096<(m.Phases.length+1)^m.P.length->∀x:Int,4096<x->Q x):eQ m Q:=by
 have hp:=o.p24
 have hk6:=o.k6
 have ev:=o.ev
 refine dO (n:=m.P.length) (λi (y:Int×Int)=>y=((((m.Phases.length+1)^i:Nat):Int),(i:Int))/\(m.Phases.length+1)^i<=4096*7) (λy=>y.2) 0 (λi y h=>by rw [h.1];simp) ⟨by simp,by simp⟩ ?_ ?_
 ·rintro i _ next hi ⟨rfl,hI⟩ hn
  have e:(((m.Phases.length+1)^i:Nat):Int)*((m.Phases.length:Int)+1)=(((m.Phases.length+1)^(i+1):Nat):Int):=by rw [Nat.pow_succ];simp
  have hg:=xR (K:=m.Phases.length) (show i<=m.P.length by omega)
  refine iN o.k0 (condT (λ_=>condT (λhc=>?_) (λhc=>h2 om _ om)) (λhc=>absurd (show (i:Int)<evt m by omega) hc))
  have hb:(m.Phases.length+1)^(i+1)<=4096*7:=by rw [Nat.pow_succ];exact Nat.mul_le_mul om om
  rw [e]
  exact ⟨by unfold rng;omega,by generalize (m.Phases.length+1)^(i+1)=z at hb;unfold rng;omega,by unfold rng;omega,hn _ ⟨rfl,hb⟩⟩
 ·rintro _ next ⟨rfl,hI⟩
  refine iN o.k0 (condT (λhc=>absurd hc om) (λ_=>?_))
  rcases Nat.lt_or_ge 4096 ((m.Phases.length+1)^m.P.length) with h | h
  ·exact h2 h _ om
  ·exact h1 h
theorem vr {Q:Bool->Prop} (w:WrM m) (h:∀b,(b=false->FrM m/\(fp m=0->(m.Phases.length+1)^m.P.length<=300\/4096<(m.Phases.length+1)^m.P.length))->Q b):mn m Q:=by
 have ht:Q true:=h true λhh=>by cases hh
 refine condT (λ_=>ht) (λ_=>condT (λ_=>ht) (λhp=>?_))
 refine kM (λi=>¬∀j:Nat,j<(at' m.P (i:Int)).length->Fr (at' (at' m.P (i:Int)) (j:Int))/\RB 129 (b6 (at' (at' m.P (i:Int)) (j:Int)))) w.lp (λi next hi hI hnx=>?_) (λhall=>?_)
 ·refine ⟨⟨by omega,by omega⟩,condT (λ_=>ht) (λhl=>?_)⟩
  have hb:(0:Int)<=(i:Int)/\(i:Int)<(m.P.length:Int):=⟨by omega,by omega⟩
  refine dO (n:=(at' m.P (i:Int)).length) (λj y=>y=(j:Int)/\∀k:Nat,k<j->Fr (at' (at' m.P (i:Int)) (k:Int))/\RB 129 (b6 (at' (at' m.P (i:Int)) (k:Int)))) (λy=>y) 0 (λj y h=>by rw [h.1,Int.add_zero]) ⟨rfl,λk hk=>absurd hk om⟩ ?_ ?_
  ·rintro j _ next2 hj ⟨rfl,hI2⟩ hn2
   have hb2:(0:Int)<=(j:Int)/\(j:Int)<((at' m.P (i:Int)).length:Int):=⟨by omega,by omega⟩
   refine ⟨hb,condT (λ_=>⟨hb,hb2,condT (λ_=>ht) (λh1=>⟨hb,hb2,condT (λ_=>ht) (λh2=>⟨by unfold rng;omega,hn2 _ ⟨by omega,λk hk=>?_⟩⟩)⟩)⟩) (λhc=>absurd hb2.2 hc)⟩
   rcases Nat.lt_or_ge k j with h3 | h3
   ·exact hI2 k h3
   ·obtain rfl:k=j:=om
    obtain ⟨w1,w2⟩:=w.wd i hi k hj
    exact ⟨⟨w1,w2,by omega,by omega⟩,(EB w1 w2 (m:=4) om om).mono om⟩
  ·rintro _ next2 ⟨rfl,hI2⟩
   exact ⟨hb,condT (λhc=>absurd hc om) (λ_=>hnx (λhh=>hh hI2))⟩
 ·have f:FrM m:=λ_ i hi=>Classical.not_not.1 (hall _ i) hi
  refine l8 w f (bO (λhe=>?_) (λhe=>h false λ_=>⟨f,λhh=>absurd hh he⟩))
  have o:=okM w f he
  refine lV o (λh4=>condT (λh3=>?_) (λh3=>h false λ_=>⟨f,λ_=>.inl om⟩)) (λh4 x hx=>condT (λ_=>?_) (λh3=>absurd (show (300:Int)<x by omega) h3))
  ·exact lV o (λ_=>by rw [decide_eq_true om];exact ht) (λh5=>absurd h5 om)
  ·refine lV o (λh5=>absurd h4 om) (λ_ x hx=>?_)
   rw [decide_eq_false om]
   exact h false λ_=>⟨f,λ_=>.inr h4⟩
theorem wE {Q:Bool->Prop} (w:WrM m) (f:FrM m) (h0:fp m≠0->Q false) (h1:fp m=0->Q (decide (4096<(m.Phases.length+1)^m.P.length))):ni m Q:=by
 refine l8 w f (bO (λhe=>?_) (λhe=>h0 he))
 have h1:=h1 he
 refine lV (okM w f he) (λh4=>?_) (λh4 x hx=>?_)
 ·rw [decide_eq_false om] at h1 ⊢;exact h1
 ·rw [decide_eq_true om] at h1 ⊢;exact h1
theorem vp {Q:Bool->Prop} (w:WrM m) (h:∀b,(b=true->FrM m/\fp m=0/\(m.Phases.length+1)^m.P.length<=300/\(cH m).length<=128)->Q b):ml m Q:=by
 have hf:Q false:=h false λhh=>by cases hh
 refine vr w λb hb=>bg (λhc=>?_) (λ_=>hf)
 have hb0:b=false:=by simpa using hc
 obtain ⟨f,h300⟩:=hb hb0
 refine l8 w f (bO (λhe=>?_) (λ_=>hf))
 refine wE w f (λhne=>absurd he hne) λ_=>bg (λhc2=>?_) (λ_=>hf)
 have h4:¬4096<(m.Phases.length+1)^m.P.length:=by simpa using hc2
 have h3:(m.Phases.length+1)^m.P.length<=300:=(h300 he).resolve_right h4
 exact tJ (okM w f he) (λ_=>hf) λh128=>h _ λ_=>⟨f,he,h3,h128⟩
end
section
variable {r:GRat} (hv:b6 r=jN)
include hv in
theorem EU {i:Nat} (hi:i<2):tq (exM r) i 0=1 / 2/\tq (exM r) i 1=1 / 4/\tq (exM r) i 2=1 / 4:=by
 have hp:∀j,j<2->pq (exM r) i j=1 / 2:=λj hj=>by
  have:pq (exM r) i j=b6 r:=by
   unfold pq
   rcases (show i=0\/i=1 by omega) with rfl | rfl<;>rcases (show j=0\/j=1 by omega) with rfl | rfl<;>rfl
  rw [this,hv]
  unfold jN
  decide +kernel
 have e2:(exM r).Phases.length=2:=rfl
 have h0:=hp 0 om
 have h1:=hp 1 om
 refine ⟨?_,?_,?_⟩
 ·unfold tq
  rw [if_pos (by rw [e2];omega),gq,h0];grind
 ·unfold tq
  rw [if_pos (by rw [e2];omega),gq,gq,h0,h1];grind
 ·unfold tq
  rw [if_neg (by rw [e2];omega),gq,gq,gq,h0,h1];grind
theorem GH {a b:Nat} (ha:a<=2) (hb:b<=2):wM (exM r) [(a:Int),(b:Int)] 2=tq (exM r) 0 a*tq (exM r) 1 b:=by
 have h1:=pU (m:=exM r) (h:=[(a:Int)]) (i:=1) (j:=b) rfl hb
 have h2:=pU (m:=exM r) (h:=[]) (i:=0) (j:=a) rfl ha
 have h1':wM (exM r) [(a:Int),(b:Int)] 2=wM (exM r) [(a:Int)] 1*tq (exM r) 1 b:=h1
 have h2':wM (exM r) [(a:Int)] 1=1*tq (exM r) 0 a:=h2
 rw [h1',h2']
 grind
theorem GJ {h:List Int}:bF (exM r) h=hZ (λj=>FV (at' [⟨2,[⟨2,0,[0,1]⟩],2⟩,⟨2,[⟨3,0,[0,1]⟩],2⟩] (j:Int)) (iX h (j:Int))) 2:=rfl
theorem GI:hsL 2 2=[[0,0],[0,1],[0,2],[1,0],[1,1],[1,2],[2,0],[2,1],[2,2]]:=by decide
include hv in
theorem uk {G:List Int->Rat}:((hsL 2 2).map λh=>wM (exM r) h 2*G h).sum=1 / 4*G [0,0]+1 / 8*G [0,1]+1 / 8*G [0,2]+1 / 8*G [1,0]+1 / 16*G [1,1]+1 / 16*G [1,2]+1 / 8*G [2,0]+1 / 16*G [2,1]+1 / 16*G [2,2]:=by
 obtain ⟨a0,a1,a2⟩:=EU hv (i:=0) om
 obtain ⟨b0,b1,b2⟩:=EU hv (i:=1) om
 have t:∀a b:Nat,a<=2->b<=2->wM (exM r) [(a:Int),(b:Int)] 2=tq (exM r) 0 a*tq (exM r) 1 b:=λa b ha hb=>GH ha hb
 have t00:wM (exM r) [0,0] 2=_:=t 0 0 om om
 have t01:wM (exM r) [0,1] 2=_:=t 0 1 om om
 have t02:wM (exM r) [0,2] 2=_:=t 0 2 om om
 have t10:wM (exM r) [1,0] 2=_:=t 1 0 om om
 have t11:wM (exM r) [1,1] 2=_:=t 1 1 om om
 have t12:wM (exM r) [1,2] 2=_:=t 1 2 om om
 have t20:wM (exM r) [2,0] 2=_:=t 2 0 om om
 have t21:wM (exM r) [2,1] 2=_:=t 2 1 om om
 have t22:wM (exM r) [2,2] 2=_:=t 2 2 om om
 rw [GI]
 simp only [List.map_cons,List.map_nil,List.sum_cons,List.sum_nil]
 rw [t00,t01,t02,t10,t11,t12,t20,t21,t22,a0,a1,a2,b0,b1,b2]
 grind
theorem GK:(bF (exM r) [0,0]=0/\bF (exM r) [0,1]=1/\bF (exM r) [0,2]=1)/\(bF (exM r) [1,0]=1/\bF (exM r) [1,1]=1/\bF (exM r) [1,2]=1)/\(bF (exM r) [2,0]=1/\bF (exM r) [2,1]=1/\bF (exM r) [2,2]=2):=by
 simp only [GJ]
 decide +kernel
include hv in
theorem Ei:eV (exM r)=((15:Int):Rat) / ((16:Int):Rat):=by
 have h:=uk hv (G:=λh=>b2q (decide (bF (exM r) h<2)))
 obtain ⟨⟨f1,f2,f3⟩,⟨f4,f5,f6⟩,f7,f8,f9⟩:=GK (r:=r)
 rw [f1,f2,f3,f4,f5,f6,f7,f8,f9] at h
 have e:eV (exM r)=_:=h
 rw [e]
 decide +kernel
include hv in
theorem Ej:qR (exM r) 0=((1:Int):Rat) / ((4:Int):Rat)/\qR (exM r) 1=((11:Int):Rat) / ((16:Int):Rat):=by
 obtain ⟨⟨f1,f2,f3⟩,⟨f4,f5,f6⟩,f7,f8,f9⟩:=GK (r:=r)
 constructor
 ·have h:=uk hv (G:=λh=>b2q (decide (bF (exM r) h=0)))
  rw [f1,f2,f3,f4,f5,f6,f7,f8,f9] at h
  have e:qR (exM r) 0=_:=h
  rw [e]
  decide +kernel
 ·have h:=uk hv (G:=λh=>b2q (decide (bF (exM r) h=1)))
  rw [f1,f2,f3,f4,f5,f6,f7,f8,f9] at h
  have e:qR (exM r) 1=_:=h
  rw [e]
  decide +kernel
end
theorem kx {n d:Int} {Q:GRat->Prop} (hn:rng n) (hd:rng d) (h0:d≠0) (h:Q (bj ((n:Rat) / (d:Rat)))):gJ n d Q:=qd hn hd (λe=>absurd e h0) λ_=>h
theorem ph {Q:Bool->Prop} (h:Q true):jD Q:=by
 have rg:∀n:Int,n.natAbs<64->rng n:=λn hn=>by unfold rng;omega
 have hr:Fr (bj jN):=oz qH (by decide)
 have hv:b6 (bj jN)=jN:=il _
 have hb:fG (bj jN)=true:=by
  unfold fG
  rw [vK,hv]
  unfold jN
  decide +kernel
 have ex:∀ {Q:GMission->Prop},Q (exM (bj jN))->ii Q:=λhQ=>kx (rg _ (by decide)) (rg _ (by decide)) (by decide) hQ
 have w:=GL hr
 have f:=GN hr hv
 have hm:=FW hb
 have e9:((exM (bj jN)).Phases.length+1)^(exM (bj jN)).P.length=9:=rfl
 have el:(cH (exM (bj jN))).length=5:=rfl
 obtain ⟨q0,q1⟩:=Ej hv
 refine ex (oX w f (λhne=>absurd hm hne) (λ_ hc=>by rw [e9] at hc;omega) (λ_=>.inl (by rw [e9];omega)) λ_ _=>ex (tm w f (λhne=>absurd hm hne) (λ_ hl=>absurd hl (by rw [el];omega)) (λ_ _=>.inl (by rw [e9];omega)) λ_ _ hR=>?_))
 refine bg (λ_=>bg (λ_=>?_) (λhh=>by cases hh)) (λhh=>by cases hh)
 refine ⟨_,kx (rg _ (by decide)) (rg _ (by decide)) (by decide) rfl,?_⟩
 rw [Ei hv] at hR ⊢
 refine ⟨_,uD hR.len.1 hR.len.2 rfl,?_⟩
 rw [decide_eq_true rfl]
 refine bg (λ_=>⟨_,kx (rg _ (by decide)) (rg _ (by decide)) (by decide) rfl,_,kx (rg _ (by decide)) (rg _ (by decide)) (by decide) rfl,?_⟩) (λhh=>by cases hh)
 have eo:qm (exM (bj jN)).Phases.length (qR (exM (bj jN)))=[bj (((1:Int):Rat) / ((4:Int):Rat)),bj (((11:Int):Rat) / ((16:Int):Rat))]:=by
  show [bj (qR (exM (bj jN)) 0),bj (qR (exM (bj jN)) 1)]=_
  rw [q0,q1]
 rw [eo]
 have b1:RB 129 (((1:Int):Rat) / ((4:Int):Rat)):=(zv (pT (n:=1) (k:=6) om (by decide)) (pT (n:=4) (k:=6) om (by decide))).mono om
 have b2:RB 129 (((11:Int):Rat) / ((16:Int):Rat)):=(zv (pT (n:=11) (k:=6) om (by decide)) (pT (n:=16) (k:=6) om (by decide))).mono om
 refine ⟨true,uC (by decide) (jr (Rp.of b1 (by decide)).len (Rp.of b2 (by decide)).len) rfl,h⟩
end Go.Gg
namespace Go.Gg
section
variable {m:GMission}
variable {K:Nat}
theorem uG (f:Nat->Nat) (h:∀j,f j=(at' m.Phases (j:Int)).Nodes.length):∀j,(dG m j).length=m.P.length*(m.Phases.length-1)+((List.range j).map f).sum
 | 0=>by rw [dG,gZ];simp
 | j+1=>by
  rw [dG,List.length_append,phN,List.length_map,uG f h j,List.range_succ,List.map_append,List.sum_append_nat,<-h j]
  simp
  omega
end
end Go.Gg
namespace Go.Gg
section
variable {m:GMission} {K:Nat}
theorem zS {f:Nat->Rat} {c:Rat}:∀n,rs (λj=>f j*c) n=rs f n*c
 | 0=>by rw [oG,oG];grind
 | n+1=>by rw [fV,fV,zS n];grind
theorem Ee (o:OkM m) (h128:(cH m).length<=128):0<=eV m/\eV m<=1:=by
 rw [<-BN o h128]
 have hp:=BO o
 refine Au _ (λv hv=>hp.pos v ?_) λτ=>zr _
 have:=List.mem_range.1 hv
 rw [pp] at this
 exact this
end
end Go.Gg
namespace Go.Gg
def zR:GRat:=⟨false,[],[]⟩
def di (m:GMission) (i:Nat):GMission:=⟨m.Phases,bq m.P (i:Int) (bu (m.Phases.length:Int) zR)⟩
theorem Bu:b6 zR=0:=by decide +kernel
theorem Dq:fG zR=true:=by decide +kernel
section
variable {m:GMission} {i:Nat}
theorem wz:(di m i).P.length=m.P.length:=dJ
theorem ry (hi:i<m.P.length) {a:Nat}:at' (di m i).P (a:Int)=if a=i then bu (m.Phases.length:Int) zR else at' m.P (a:Int):=gy hi
theorem t6 (hi:i<m.P.length) {a:Nat} (h:a=i):(at' (di m i).P (a:Int)).length=m.Phases.length:=by rw [ry hi,if_pos h];simp [bu]
theorem Aa (hi:i<m.P.length) {a j:Nat} (hj:j<m.Phases.length):at' (at' (di m i).P (a:Int)) (j:Int)=if a=i then zR else at' (at' m.P (a:Int)) (j:Int):=by
 rw [ry hi]
 by_cases h:a=i
 ·rw [if_pos h,if_pos h];exact yU om
 ·rw [if_neg h,if_neg h]
theorem EM (w:WrM m) (hi:i<m.P.length):WrM (di m i):=by
 refine ⟨w.lf,by rw [wz];exact w.lp,λa ha=>?_,w.top,λa ha=>?_⟩
 ·rw [wz] at ha
  by_cases h:a=i
  ·rw [t6 hi h];exact w.lf
  ·rw [ry hi,if_neg h];exact w.lr a ha
 ·rw [wz] at ha
  by_cases h:a=i
  ·intro j hj
   rw [t6 hi h] at hj
   rw [Aa hi hj,if_pos h]
   exact ⟨(Rp.zero (k:=64) (by decide) (by decide)).1.1,(Rp.zero (k:=64) (by decide) (by decide)).1.2.1⟩
  ·rw [ry hi,if_neg h];exact w.wd a ha
theorem EN (f:FrM m) (hi:i<m.P.length):FrM (di m i):=λa ha j hj=>by
 rw [wz] at ha
 by_cases h:a=i
 ·rw [t6 hi h] at hj
  rw [Aa hi hj,if_pos h,Bu]
  exact ⟨(Rp.zero (k:=64) (by decide) (by decide)).1,tl 129 om⟩
 ·rw [ry hi,if_neg h] at hj ⊢
  exact f a ha j hj
theorem CA (o:OkM m) (hi:i<m.P.length):fp (di m i)=0:=by
 refine yh o.k0 o.k6 (λj hj=>⟨jv.2 (o.fg j hj).1,(o.fg j hj).2⟩) ?_ (by rw [wz];exact o.ev) (λa ha=>?_)
 ·show evt m*(m.Phases.length:Int)<=24
  rw [<-o.ev]
  have h24:=o.n24
  have e:(m.P.length:Int)*(m.Phases.length:Int)=((m.P.length*m.Phases.length:Nat):Int):=by simp
  rw [e]
  omega
 ·rw [wz] at ha
  by_cases h:a=i
  ·refine ⟨t6 hi h,λj hj=>?_⟩
   rw [t6 hi h] at hj
   rw [Aa hi hj,if_pos h]
   exact Dq
  ·rw [ry hi,if_neg h]
   refine ⟨o.row a ha,λj hj=>?_⟩
   rw [o.row a ha] at hj
   exact o.prob a ha j hj
theorem Cy:(cH (di m i)).length=(cH m).length:=by
 have h:=uG (m:=m) (λj=>(at' m.Phases (j:Int)).Nodes.length) (λ_=>rfl) m.Phases.length
 have h':=uG (m:=di m i) (λj=>(at' m.Phases (j:Int)).Nodes.length) (λ_=>rfl) m.Phases.length
 rw [wz] at h'
 have e:(dG (di m i) m.Phases.length).length=(dG m m.Phases.length).length:=h'.trans h.symm
 unfold cH
 show (if 1<m.Phases.length then _ else _:List GNode).length=_
 split
 ·rw [List.length_append,List.length_append]
  show (dG (di m i) m.Phases.length).length+_=_
  rw [e];rfl
 ·exact e
theorem Ez {j:Int} {Q:GRat->Option Int->Prop} (w:WrM m) (hf:FrM m) (h300:fp m=0->(m.Phases.length+1)^m.P.length<=300) (h1:fp m≠0->Q ⟨false,[],[]⟩ (some (fp m)))
  (h10:fp m=0->j<0\/(m.P.length:Int)<=j->Q ⟨false,[],[]⟩ (some 10)) (h4:fp m=0->∀i:Nat,j=i->i<m.P.length->128<(cH m).length->Q ⟨false,[],[]⟩ (some 4))
  (h2:fp m=0->∀i:Nat,j=i->i<m.P.length->(cH m).length<=128->Rp 4000 (bj (eV m)) (eV m)->Rp 4000 (bj (eV (di m i))) (eV (di m i))->Rp 8001 (bj (eV m-eV (di m i))) (eV m-eV (di m i))->Q (bj (eV m-eV (di m i))) none):j0 m j Q:=by
 refine iT w hf ?_
 rw [dD]
 refine condT (λhe=>?_) (λhe=>?_)
 ·rw [qP he];exact h1 he
 have he:=Classical.not_not.1 he
 have o:=okM w hf he
 have hp:=o.p24
 have hk6:=o.k6
 have h10:=h10 he
 refine ⟨λy=>y=true↔j<0\/(m.P.length:Int)<=j,condT (λhc=>by simp [hc]) (λhc=>by simp [hc]),λy hy=>bg (λhb=>h10 (hy.1 hb)) (λhb=>?_)⟩
 have hj:¬(j<0\/(m.P.length:Int)<=j):=λhc=>by rw [hy.2 hc] at hb;cases hb
 obtain ⟨i,rfl⟩:∃i:Nat,j=i:=⟨j.toNat,by omega⟩
 have hi:i<m.P.length:=om
 refine tm w hf (λhne=>absurd he hne) (λ_ hl=>bg (λ_=>h4 he i rfl hi hl) (λhc=>by cases hc)) (λ_ _=>.inl (h300 he)) (λ_ hl hF=>bg (λhc=>by cases hc) (λ_=>?_))
 have cl:b_ m.P λy=>y=m.P:=λb hb=>by
  refine bg (λh=>(hb h).symm) (λ_=>⟨by simp;omega,by simp⟩)
 refine ⟨_,cl,⟨by omega,by omega,by omega,by omega⟩,⟨by omega,by omega⟩,?_⟩
 have hm:=CA o hi
 have hu:=Cy (m:=m) (i:=i)
 refine tm (m:=di m i) (EM w hi) (EN hf hi) (λhne=>absurd hm hne) (λ_ hc=>absurd hc om) (λ_ _=>.inl (by rw [wz];exact h300 he)) (λ_ _ hG=>bg (λhc=>by cases hc) (λ_=>?_))
 exact B0 hF hG (by simp only [cap];omega) λhS=>h2 he i rfl hi hl hF hG hS
end
end Go.Gg
namespace Go.Gg
theorem Bi {l l':List Int} {j j':Int} (hl:l.length=l'.length) (h:∀i:Nat,i<l.length->at' l (i:Int)<=j->at' l' (i:Int)<=j') (i:Nat):(iX l j).testBit i=true->(iX l' j').testBit i=true:=by
 unfold iX
 rw [ot,ot]
 simp only [Bool.and_eq_true,decide_eq_true_eq,uj]
 exact λhh=>⟨by omega,h i hh.1 hh.2⟩
def zx (f:GFormula):Prop:=∀s s':Nat,s<4294967296->s'<4294967296->(∀i,s.testBit i=true->s'.testBit i=true)->FV f s=true->FV f s'=true
theorem yB {x:GNode} {v v':List Bool}:∀n,(∀j:Nat,j<n->at' v (at' x.Args (j:Int))=true->at' v' (at' x.Args (j:Int))=true)->cnt x v n<=cnt x v' n
 | 0,_=>Nat.le_refl _
 | n+1,h=>by
  have h1:=yB n λj hj=>h j om
  rw [cnt,cnt]
  have h2:=h n om
  by_cases hv:at' v (at' x.Args (n:Int))=true
  ·rw [if_pos hv,if_pos (h2 hv)];omega
  ·rw [if_neg hv];omega
structure BelowM (f:GFormula) (mark:List Bool):Prop where
 top:at' mark f.Top=true
 args:∀t:Nat,t<f.Nodes.length->at' mark (f.Vars+t)=true->∀j:Nat,j<(at' f.Nodes (t:Int)).Args.length->at' mark (at' (at' f.Nodes (t:Int)).Args (j:Int))=true
theorem D7 {f:GFormula} (g:FG f) {mark:List Bool} (hb:BelowM f mark) (hk:∀t:Nat,t<f.Nodes.length->at' mark (f.Vars+t)=true->(at' f.Nodes (t:Int)).Kind≠1/\(at' f.Nodes (t:Int)).Kind≠5):zx f:=by
 intro s s' _ _ hss
 have v0:=g.v0
 have key:∀a:Nat,(a:Int)<f.Vars+f.Nodes.length->at' mark (a:Int)=true->at' (cq f s f.Nodes.length) (a:Int)=true->at' (cq f s' f.Nodes.length) (a:Int)=true:=by
  intro a
  induction a using Nat.strongRecOn with
  | _ a ih=>
   intro ha hm hv
   rcases Int.lt_or_le (a:Int) f.Vars with h1 | h1
   ·rw [gS om h1,wG,Int.toNat_natCast] at hv ⊢
    exact hss a hv
   ·obtain ⟨t,rfl⟩:∃t:Nat,a=f.Vars.toNat+t:=⟨a-f.Vars.toNat,by omega⟩
    have e:((f.Vars.toNat+t:Nat):Int)=f.Vars+t:=om
    rw [e] at hm hv ⊢
    have ht:t<f.Nodes.length:=om
    have N:=fh (g.node t ht)
    have arg:∀(u:Nat) (j:Nat),j<(at' f.Nodes (t:Int)).Args.length->at' (cq f u t) (at' (at' f.Nodes (t:Int)).Args (j:Int))=at' (cq f u f.Nodes.length) (at' (at' f.Nodes (t:Int)).Args (j:Int)):=λu j hj=>by
     have:=N.arg j hj
     exact (iG (m:=t) this.1 om f.Nodes.length om).symm
    have hc:cnt (at' f.Nodes (t:Int)) (cq f s t) (at' f.Nodes (t:Int)).Args.length<=cnt (at' f.Nodes (t:Int)) (cq f s' t) (at' f.Nodes (t:Int)).Args.length:=yB _ λj hj=>by
     rw [arg s j hj,arg s' j hj]
     have ha2:=N.arg j hj
     obtain ⟨b,hb2⟩:=Int.eq_ofNat_of_zero_le ha2.1
     have hm2:=hb.args t ht hm j hj
     rw [hb2] at hm2 ha2 ⊢
     exact ih b om om hm2
    rw [mq v0 ht] at hv ⊢
    unfold gn mG at hv ⊢
    have hle:=zp (x:=at' f.Nodes (t:Int)) (v:=cq f s' t) (at' f.Nodes (t:Int)).Args.length
    obtain ⟨k1,k5⟩:=hk t ht hm
    have n0:=N.k0
    have n5:=N.k5
    by_cases h0:(at' f.Nodes (t:Int)).Kind=0
    ·rw [if_pos h0] at hv ⊢;exact hv
    rw [if_neg h0,if_neg k1] at hv ⊢
    by_cases h2:(at' f.Nodes (t:Int)).Kind=2
    ·rw [if_pos h2] at hv ⊢
     simp only [beq_iff_eq] at hv ⊢;omega
    rw [if_neg h2] at hv ⊢
    by_cases h3:(at' f.Nodes (t:Int)).Kind=3
    ·rw [if_pos h3] at hv ⊢
     simp only [decide_eq_true_eq] at hv ⊢;omega
    rw [if_neg h3] at hv ⊢
    by_cases h4:(at' f.Nodes (t:Int)).Kind=4
    ·rw [if_pos h4] at hv ⊢
     simp only [decide_eq_true_eq] at hv ⊢;omega
    ·omega
 intro hv
 obtain ⟨a,ha⟩:=Int.eq_ofNat_of_zero_le g.top0
 have htop:=g.top
 have hm:=hb.top
 unfold FV at hv ⊢
 rw [ha] at hv hm htop ⊢
 exact key a htop hm hv
theorem tL {f:GFormula} {Q:List Bool->Prop} (g:FG f) (h:∀mark:List Bool,(mark.length:Int)=f.Vars+f.Nodes.length->BelowM f mark->Q mark):ma f Q:=by
 have v0:=g.v0
 have v24:=g.v24
 have n128:=g.n128
 have t0:=g.top0
 have t1:=g.top
 refine ⟨by unfold rng;omega,⟨by omega,by omega,by omega,by omega⟩,⟨t0,by omega⟩,by unfold rng;omega,?_⟩
 refine ⟨λy=>∃k:Nat,y.1=(k:Int)-1/\k<=f.Nodes.length/\(y.2.length:Int)=f.Vars+f.Nodes.length/\at' y.2 f.Top=true/\∀t:Nat,k<=t->t<f.Nodes.length->at' y.2 (f.Vars+t)=true->∀j:Nat,j<(at' f.Nodes (t:Int)).Args.length->at' y.2 (at' (at' f.Nodes (t:Int)).Args (j:Int))=true,λy=>(y.1+1).toNat,?_,?_⟩
 ·refine ⟨f.Nodes.length,by simp,Nat.le_refl _,by rw [dJ,qD];omega,?_,λt h1 h2=>om⟩
  obtain ⟨a,ha⟩:=Int.eq_ofNat_of_zero_le t0
  rw [ha,gy (by rw [qD];omega),if_pos rfl]
 ·rintro ⟨x,mark⟩ ⟨k,hx,hk,hl,htop,hI⟩
  dsimp only at hx hl htop hI
  subst hx
  refine condT (λhc=>?_) (λhc=>?_)
  ·obtain ⟨t,rfl⟩:∃t,k=t+1:=⟨k-1,by omega⟩
   have ex:((t+1:Nat):Int)-1=(t:Int):=om
   rw [ex]
   have ht:t<f.Nodes.length:=om
   refine ⟨by unfold rng;omega,⟨by omega,by omega⟩,bg (λhm=>⟨by unfold rng;omega,⟨t,by dsimp only,by omega,hl,htop,λu hu hu2 hmu=>?_⟩,by dsimp only;omega⟩) (λhm=>⟨⟨by omega,by omega⟩,?_⟩)⟩
   ·rcases Nat.lt_or_ge t u with h1 | h1
    ·exact hI u h1 hu2 hmu
    ·obtain rfl:u=t:=om
     simp only [Bool.not_eq_true'] at hm
     rw [hm] at hmu;cases hmu
   ·have N:=fh (g.node t ht)
    have hle:=N.len
    refine dO (n:=(at' f.Nodes (t:Int)).Args.length) (λj y=>y.1=(j:Int)/\(y.2.length:Int)=f.Vars+f.Nodes.length/\(∀a:Nat,at' mark (a:Int)=true->at' y.2 (a:Int)=true)/\(∀u:Nat,t<u->u<f.Nodes.length->at' y.2 (f.Vars+u)=true->at' mark (f.Vars+u)=true)/\∀i:Nat,i<j->at' y.2 (at' (at' f.Nodes (t:Int)).Args (i:Int))=true) (λy=>y.1) 0 (λj y h=>by rw [h.1];simp) ⟨rfl,hl,λ_ h=>h,λ_ _ _ h=>h,λi hi=>absurd hi om⟩ ?_ ?_
    ·rintro j ⟨y1,y2⟩ next2 hj ⟨hy1,hyl,hy3,hy4,hy5⟩ hn2
     dsimp only at hy1 hyl hy3 hy4 hy5
     subst hy1
     have ha:=N.arg j hj
     obtain ⟨b,hb⟩:=Int.eq_ofNat_of_zero_le ha.1
     rw [hb] at ha
     have hbl:b<y2.length:=om
     have mono:∀a:Nat,at' y2 (a:Int)=true->at' (bq y2 (b:Int) true) (a:Int)=true:=λa h=>by
      rw [gy hbl];split
      ·rfl
      ·exact h
     refine condT (λ_=>⟨⟨by omega,by omega⟩,?_⟩) (λhc=>absurd (show (j:Int)<((at' f.Nodes (t:Int)).Args.length:Int) by omega) hc)
     rw [hb]
     refine ⟨⟨by omega,by omega⟩,by unfold rng;omega,hn2 _ ⟨by dsimp only;omega,by dsimp only;rw [dJ];exact hyl,λa h=>mono a (hy3 a h),λu hu hu2 hmu=>?_,λi hi=>?_⟩⟩
     ·have e:f.Vars+(u:Int)=((f.Vars.toNat+u:Nat):Int):=om
      dsimp only at hmu
      rw [e,gy hbl,if_neg om,<-e] at hmu
      exact hy4 u hu hu2 hmu
     ·rcases Nat.lt_or_ge i j with h1 | h1
      ·have hai:=N.arg i om
       obtain ⟨c,hc⟩:=Int.eq_ofNat_of_zero_le hai.1
       have:=hy5 i h1
       dsimp only
       rw [hc] at this ⊢
       exact mono c this
      ·obtain rfl:i=j:=om
       dsimp only
       rw [hb,gy hbl,if_pos rfl]
    ·rintro ⟨y1,y2⟩ next2 ⟨hy1,hyl,hy3,hy4,hy5⟩
     dsimp only at hy1 hyl hy3 hy4 hy5
     subst hy1
     refine condT (λhc=>absurd hc om) (λ_=>⟨by unfold rng;omega,⟨t,by dsimp only,by omega,hyl,?_,λu hu hu2 hmu j hj=>?_⟩,by dsimp only;omega⟩)
     ·obtain ⟨a,ha⟩:=Int.eq_ofNat_of_zero_le t0
      dsimp only
      rw [ha] at htop ⊢
      exact hy3 a htop
     ·rcases Nat.lt_or_ge t u with h1 | h1
      ·have:=hI u h1 hu2 (hy4 u h1 hu2 hmu) j hj
       have hau:=(fh (g.node u hu2)).arg j hj
       obtain ⟨c,hc⟩:=Int.eq_ofNat_of_zero_le hau.1
       dsimp only
       rw [hc] at this ⊢
       exact hy3 c this
      ·obtain rfl:u=t:=om
       exact hy5 j hj
  ·exact h mark hl ⟨htop,λt ht=>hI t om ht⟩
theorem rn {f:GFormula} {Q:Bool->Prop} (g:FG f) (h:∀b,(b=true->zx f)->Q b):jh f Q:=by
 have v0:=g.v0
 have v24:=g.v24
 have n128:=g.n128
 refine tL g λmark hl hb=>?_
 refine kM (n:=f.Nodes.length) (λt=>¬(at' mark (f.Vars+(t:Int))=true->(at' f.Nodes (t:Int)).Kind≠1/\(at' f.Nodes (t:Int)).Kind≠5)) om (λt next ht hI hnx=>?_) (λhall=>?_)
 ·have hb2:(0:Int)<=(t:Int)/\(t:Int)<(f.Nodes.length:Int):=⟨by omega,by omega⟩
  refine ⟨by unfold rng;omega,⟨by omega,by omega⟩,bg (λhm=>⟨hb2,bO (λ_=>h false λhh=>by cases hh) (λk1=>⟨hb2,bO (λ_=>h false λhh=>by cases hh) (λk5=>hnx λhn=>hn λ_=>⟨k1,k5⟩)⟩)⟩) (λhm=>hnx λhn=>hn λhm2=>by rw [hm] at hm2;cases hm2)⟩
 ·exact h true λ_=>D7 g hb λt ht=>Classical.not_not.1 (hall t ht)
theorem CT {m:GMission} {l l':List Int} (o:OkM m) (h1:OkH m l) (h2:OkH m l') (hle:∀i:Nat,i<l.length->at' l (i:Int)<=at' l' (i:Int)) (hm:∀j:Nat,j<m.Phases.length->zx (at' m.Phases (j:Int))):bF m l<=bF m l':=by
 have k1:=nl (g:=λj=>FV (at' m.Phases (j:Int)) (iX l (j:Int))) m.Phases.length
 rcases Nat.lt_or_ge (bF m l') m.Phases.length with h | h
 ·have ht:FV (at' m.Phases (bF m l':Int)) (iX l' (bF m l':Int))=true:=tc (g:=λj=>FV (at' m.Phases (j:Int)) (iX l' (j:Int))) h
  have hn:=hm _ h _ _ (o.small h2 _) (o.small h1 _) (Bi (by rw [h1.1,h2.1]) λi hi hh=>Int.le_trans (hle i (by rw [h1.1,<-h2.1];exact hi)) hh) ht
  rcases Nat.lt_or_ge (bF m l') (bF m l) with h3 | h3
  ·have:=iC (g:=λj=>FV (at' m.Phases (j:Int)) (iX l (j:Int))) h3
   rw [hn] at this;cases this
  ·exact h3
 ·exact Nat.le_trans k1 h
end Go.Gg
namespace Go.Gg
def cL (c:Nat->Nat->Nat) (h:List Int):List Int:=(List.range h.length).map λi=>((c i (at' h (i:Int)).toNat:Nat):Int)
theorem C2 {c:Nat->Nat->Nat} {h:List Int}:(cL c h).length=h.length:=by simp [cL]
theorem EW {c:Nat->Nat->Nat} {h:List Int} {i:Nat} (hi:i<h.length):at' (cL c h) (i:Int)=((c i (at' h (i:Int)).toNat:Nat):Int):=cp hi
theorem Eo {c:Nat->Nat->Nat} {h:List Int} {j:Nat}:cL c (h++[(j:Int)])=cL c h++[((c h.length j:Nat):Int)]:=by
 unfold cL
 rw [List.length_append,List.length_singleton,List.range_succ,List.map_append]
 congr 1
 ·refine List.map_congr_left λi hi=>?_
  have hi:=List.mem_range.1 hi
  rw [dE om om]
 ·rw [List.map_cons,List.map_nil,gz];rfl
theorem xP {m m':GMission} {c:Nat->Nat->Nat} {K K':Nat} (hK:m.Phases.length=K) (hK':m'.Phases.length=K'):∀n,(∀i,i<n->∀G:Nat->Rat,rs (λj=>tq m i j*G (c i j)) (K+1)=rs (λj=>tq m' i j*G j) (K'+1))->
  ∀G:List Int->Rat,((hsL K n).map λh=>wM m h n*G (cL c h)).sum=((hsL K' n).map λh=>wM m' h n*G h).sum
 | 0,_,G=>by simp [hsL,wM,cL]
 | n+1,hn,G=>by
  rw [hsL,hsL]
  rw [nO (c:=λh=>wM m h n*(λh'=>rs (λj=>tq m' n j*G (h'++[(j:Int)])) (K'+1)) (cL c h)) _ λh hm=>?_]
  ·rw [xP hK hK' n (λi hi=>hn i om) (λh'=>rs (λj=>tq m' n j*G (h'++[(j:Int)])) (K'+1))]
   rw [nO (c:=λh=>wM m' h n*rs (λj=>tq m' n j*G (h++[(j:Int)])) (K'+1)) _ λh hm=>?_]
   have hlen:=(qF n h hm).1
   rw [List.map_map]
   have:((List.range (K'+1)).map ((λh=>wM m' h (n+1)*G h)∘λj=>h++[((j:Nat):Int)]))=(List.range (K'+1)).map λj=>wM m' h n*(tq m' n j*G (h++[((j:Nat):Int)])):=
    List.map_congr_left λj hj=>by
     show wM m' (h++[((j:Nat):Int)]) (n+1)*_=_
     rw [pU hlen (by rw [hK'];have:=List.mem_range.1 hj;omega)]
     grind
   rw [this,sW]
   rfl
  ·have hlen:=(qF n h hm).1
   rw [List.map_map]
   have:((List.range (K+1)).map ((λh=>wM m h (n+1)*G (cL c h))∘λj=>h++[((j:Nat):Int)]))=(List.range (K+1)).map λj=>wM m h n*(tq m n j*G (cL c h++[((c n j:Nat):Int)])):=
    List.map_congr_left λj hj=>by
     show wM m (h++[((j:Nat):Int)]) (n+1)*G (cL c (h++[((j:Nat):Int)]))=_
     rw [pU hlen (by rw [hK];have:=List.mem_range.1 hj;omega),Eo,hlen]
     grind
   rw [this,sW]
   have h1:=hn n om (λj=>G (cL c h++[((j:Nat):Int)]))
   unfold rs at h1
   rw [h1]
   rfl
theorem DF {n:Nat}:rs (λ_=>0) n=0:=by
 induction n with
 | zero=>rfl
 | succ n ih=>rw [fV,ih];grind
theorem BZ {α:Type} {f g:α->Rat}:∀l:List α,(∀x∈l,f x<=g x)->(l.map f).sum<=(l.map g).sum
 | [],_=>Rat.le_refl
 | x :: l,h=>by
  rw [List.map_cons,List.map_cons,List.sum_cons,List.sum_cons]
  have h1:=h x (by simp)
  have h2:=BZ l λy hy=>h y (by simp [hy])
  grind
section
variable {m:GMission} {i:Nat}
theorem EL (hi:i<m.P.length) {a j:Nat} (hj:j<m.Phases.length):pq (di m i) a j=if a=i then 0 else pq m a j:=by
 unfold pq
 rw [Aa hi hj]
 split
 ·exact Bu
 ·rfl
theorem CB (hi:i<m.P.length) {a:Nat}:∀j,j<=m.Phases.length->gq (di m i) a j=if a=i then 1 else gq m a j
 | 0,_=>by rw [gq,gq];split<;>rfl
 | j+1,h=>by
  rw [gq,gq,CB hi j om,EL hi om]
  split<;>grind
theorem Cz (hi:i<m.P.length) {a j:Nat} (hj:j<=m.Phases.length):tq (di m i) a j=if a=i then (if j<m.Phases.length then 0 else 1) else tq m a j:=by
 unfold tq
 show (if j<m.Phases.length then _ else _)=_
 by_cases h:j<m.Phases.length
 ·rw [if_pos h,if_pos h,if_pos h,CB hi j hj,EL hi h]
  split<;>grind
 ·rw [if_neg h,if_neg h,if_neg h,CB hi j hj]
def nvC (K i a j:Nat):Nat:=if a=i then K else j
theorem DV (hi:i<m.P.length) {a:Nat} {G:Nat->Rat}:rs (λj=>tq m a j*G (nvC m.Phases.length i a j)) (m.Phases.length+1)=rs (λj=>tq (di m i) a j*G j) (m.Phases.length+1):=by
 by_cases h:a=i
 ·rw [mu (f:=λj=>tq m a j*G (nvC m.Phases.length i a j)) (g:=λj=>tq m a j*G m.Phases.length) _ λj _=>by unfold nvC;rw [if_pos h]]
  rw [zS,show rs (tq m a) (m.Phases.length+1)=1 from Fm,fV]
  rw [mu (f:=λj=>tq (di m i) a j*G j) (g:=λ_=>0) _ λj hj=>by rw [Cz hi om,if_pos h,if_pos hj];grind]
  rw [DF,Cz hi (Nat.le_refl _),if_pos h,if_neg om]
  grind
 ·refine mu _ λj hj=>?_
  rw [Cz hi om,if_neg h]
  unfold nvC
  rw [if_neg h]
theorem DW (hi:i<m.P.length):eV (di m i)=((hsL m.Phases.length m.P.length).map λh=>wM m h m.P.length*b2q (decide (bF m (cL (nvC m.Phases.length i) h)<m.Phases.length))).sum:=by
 unfold eV
 rw [wz]
 exact (xP (m:=m) (m':=di m i) (c:=nvC m.Phases.length i) rfl rfl m.P.length (λa _ G=>DV hi) (λh=>b2q (decide (bF m h<m.Phases.length)))).symm
theorem Bw (o:OkM m) (h128:(cH m).length<=128) (hi:i<m.P.length) (hm:∀j:Nat,j<m.Phases.length->zx (at' m.Phases (j:Int))):eV (di m i)<=eV m/\0<=eV (di m i):=by
 have o':=okM (EM o.w hi) (EN o.f hi) (CA o hi)
 refine ⟨?_,(Ee o' (by rw [Cy];exact h128)).1⟩
 rw [DW hi]
 unfold eV
 refine BZ _ λh hh=>?_
 have hme:=qF m.P.length h hh
 have h1:OkH m h:=⟨hme.1,λa ha=>hme.2 a om⟩
 have h2:OkH m (cL (nvC m.Phases.length i) h):=⟨by rw [C2];exact hme.1,λa ha=>by
  rw [C2] at ha
  have:=h1.2 a ha
  rw [EW ha]
  unfold nvC
  split<;>omega⟩
 have hle:=CT o h1 h2 (λa ha=>by
  have:=h1.2 a ha
  rw [EW ha]
  unfold nvC
  split<;>omega) hm
 have hw:=vv o (l:=h) m.P.length (Nat.le_refl _)
 by_cases h3:bF m (cL (nvC m.Phases.length i) h)<m.Phases.length
 ·rw [decide_eq_true h3,decide_eq_true (show bF m h<m.Phases.length by omega)]
  exact Rat.le_refl
 ·rw [decide_eq_false h3]
  have hb:=(zr (decide (bF m h<m.Phases.length))).1
  have h4:0<=wM m h m.P.length*b2q (decide (bF m h<m.Phases.length)):=Rat.mul_nonneg hw hb
  show _*(0:Rat)<=_
  grind
end
end Go.Gg
namespace Go.Gg
theorem rF {m:GMission} {Q:Bool->Prop} (o:OkM m) (h:∀b,(b=true->∀j:Nat,j<m.Phases.length->zx (at' m.Phases (j:Int)))->Q b):jo m Q:=by
 refine kM (λj=>¬zx (at' m.Phases (j:Int))) o.w.lf (λj next2 hj _ hnx=>?_) (λhall=>?_)
 ·exact ⟨⟨by omega,by omega⟩,rn (o.fg j hj).1 λb hb=>bg (λ_=>h false λhc=>by cases hc) λhb2=>hnx λhn=>hn (hb (by simpa using hb2))⟩
 ·exact h true λ_ j hj=>Classical.not_not.1 (hall j hj)
theorem oe {m:GMission} {j:Int} {Q:Bool->Prop} (w:WrM m) (h:Q true):jM m j Q:=by
 refine ⟨λy=>y=false->(FrM m/\fp m=0/\(m.Phases.length+1)^m.P.length<=300/\(cH m).length<=128)/\(∀j:Nat,j<m.Phases.length->zx (at' m.Phases (j:Int)))/\∃i:Nat,j=i/\i<m.P.length,?_,?_⟩
 ·refine ph (bg (λhh=>by cases hh) λ_=>vp w λb hb=>bg (λ_ hc=>by cases hc) λhb2=>?_)
  have hv:=hb (by simpa using hb2)
  have o:=okM w hv.1 hv.2.1
  refine rF o λb2 hm=>bg (λ_ hc=>by cases hc) λhb3=>?_
  have hm:=hm (by simpa using hb3)
  have ev:=o.ev
  exact condT (λ_ hc=>by cases hc) λh0=>iN o.k0 λhc=>⟨hv,hm,j.toNat,by omega,by have:=of_decide_eq_false hc;omega⟩
 intro y hy
 refine bg (λ_=>ph h) λhf=>?_
 obtain ⟨⟨f,he,h300,h128⟩,hm,i,rfl,hi⟩:=hy hf
 have o:=okM w f he
 obtain ⟨b1,b2⟩:=Bw o h128 hi hm
 refine tm w f (λhne=>absurd he hne) (λ_ hc=>absurd hc om) (λ_ _=>.inl h300) (λ_ _ hF=>?_)
 refine Ez w f (λ_=>h300) (λhne=>absurd he hne) (λ_ hc=>absurd hc om) (λ_ _ _ _ hl=>absurd hl om) (λ_ i' hi' _ _ _ _ hS=>?_)
 obtain rfl:i=i':=om
 refine bg (λ_=>bg (λ_=>B4 hS (condT (λ_=>EV hS hF (by simp only [cap];omega) ?_) (λhn=>absurd (lI.2 (by grind)) hn))) (λhc=>by cases hc)) (λhc=>by cases hc)
 have:¬0<nR (eV m-eV (di m i)-eV m):=λhc=>by
  have:=xC.1 hc
  grind
 rw [decide_eq_true om]
 exact h
end Go.Gg
