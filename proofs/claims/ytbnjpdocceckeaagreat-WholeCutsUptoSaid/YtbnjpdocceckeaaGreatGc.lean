/- An own logic over the kit's weakest preconditions, part Q: code and lists of operations, told by what they do; rules for them. Conditions: none. -/
import Derived.Test.YtbnjpdocceckeaaGreatGb
import Derived.KernelRfl
set_option linter.all false
open List (all_eq_true length_map)
open Int (mul_comm pow_pos)
open Nat (beq ble div_lt_self le_of_ble_eq_true le_refl)
open Option (getD_some)
open Bool (and_eq_true)
namespace Go.Gg
open Go.RowKit (Below)
def Vc(P:Program)(n:Nat)(c:Code)(Q:AK)(t:Env)(S:St):Prop:=∀(ro:Option Nat),kL ro.isSome n c=true->∀(G:Qh) (a:Act) (w:World),Rel G S w->TR n G t a->c.wpIn (Xr ro) 0 P (Q.lift n G) a w
variable{c:Code}{t':Env}{S':St}{want:Bool}
section
variable{P:Program}{n:Nat}{Q:AK}{t:Env}{S:St}
theorem AK.QP{Q:AK}{G G':Qh}(hg:G.le G'){e:Exit}{a:Act}{w:World}(h:Q.lift n G' e a w):Q.lift n G e a w:=by cases e<;>first|exact Gg.QP h hg|exact h
theorem Vc.wk(hw:Rm t S t' S')(h:Vc P n c Q t' S'):Vc P n c Q t S:=λro QT G a w hr ht=>
 let ⟨G',a1,a2,a3⟩:=hw n G a w hr ht
 wpIn_mono (h ro QT G' a w a2 a3) (λ_ _ _ he=>AK.QP a1 he)
theorem Vc.skip(h:Q.Q8 t S):Vc P n .skip Q t S:=λ_ _ G _ _ hr ht=>wpIn_skip ⟨t,S,G,h,Qh.le.refl G,hr,ht⟩
theorem Vc.exit{id:Nat}(h:Q.ex id t S):Vc P n (.exit id) Q t S:=λ_ _ G _ _ hr ht=>wpIn_exit ⟨t,S,G,h,Qh.le.refl G,hr,ht⟩
theorem Vc.ret(h:Q.ret t S):Vc P n .ret Q t S:=λ_ _ G _ _ hr ht=>wpIn_ret ⟨t,S,G,h,Qh.le.refl G,hr,ht⟩
theorem Vc.seq{x y:Code}(h:Vc P n x { Q with Q8:=Vc P n y Q } t S):Vc P n (.seq x y) Q t S:=by
 intro ro QT G a w hr ht;simp only[kL,and_eq_true]at QT;refine wpIn_seq (wpIn_mono (h ro QT.1 G a w hr ht) (λe a w he=>?_));cases e with
 | normal=>
  obtain⟨t',S',G',r,le,SQ,Xk⟩:=he;exact wpIn_mono (r ro QT.2 G' a w SQ Xk) (λ_ _ _ he=>AK.QP le he)
 | exit id=>exact he
 | ret=>exact he
 | goto l=>exact he
 | panic c=>exact he
 | outgrown=>exact he
theorem Vc.cond{c:Operand}{x y:Code}{v:Bool}(hc:ev t c = .bool v)(h1:v=true->Vc P n x Q t S)(h2:v=false->Vc P n y Q t S):Vc P n (.cond c x y) Q t S:=by intro ro QT G a w hr ht;simp only[kL,and_eq_true]at QT;have Up:=ht.eval c;rw[hc]at Up;generalize he:a.eval c=cv at Up;cases Up;exact wpIn_cond_split he (λhv=>h1 hv ro QT.1 G a w hr ht) (λhv=>h2 hv ro QT.2 G a w hr ht)
theorem Vc.block{id:Nat}{c:Code}(h:Vc P n c { Q with ex:=λi t S=>if i=id then Q.Q8 t S else Q.ex i t S } t S):Vc P n (.block id c) Q t S:=by
 intro ro QT G a w hr ht;refine wpIn_block (wpIn_mono (h ro QT G a w hr ht) (λe a w he=>?_));cases e with
 | exit id'=>
  simp only[Exit.inBlock];obtain⟨t',S',G',r,le,SQ,Xk⟩:=he;simp only at r;split;·rename_i Zh;rw[if_pos Zh]at r;exact⟨t',S',G',r,le,SQ,Xk⟩
  ·rename_i Zh;rw[if_neg Zh]at r;exact⟨t',S',G',r,le,SQ,Xk⟩
 | normal=>exact he
 | ret=>exact he
 | goto l=>exact he
 | panic c=>exact he
 | outgrown=>exact he
theorem Vc.loop{σ:Type}{c:Code}(I:σ->Prop)(μ:σ->Nat)(T:σ->Env)(Z:σ->St)(x:σ)(hx:Rm t S (T x) (Z x))(h0:I x)(h:∀y,I y->Vc P n c { Q with Q8:=λt S=>∃z,Rm t S (T z) (Z z)/\I z/\μ z<μ y } (T y) (Z y)):Vc P n (.loop c) Q t S:=by
 intro ro QT G a w hr ht;obtain⟨G0,g1,g2,g3⟩:=hx n G a w hr ht;refine DO (α:=σ×Qh) (λx a w=>I x.1/\G.le x.2/\Rel x.2 (Z x.1) w/\TR n x.2 (T x.1) a) (λx=>μ x.1) (x:=(x,G0)) ⟨h0,g1,g2,g3⟩ ?_;rintro⟨y,G'⟩ a w ⟨hI,hle,hr,ht⟩;refine wpIn_mono (h y hI ro QT G' a w hr ht) (λe a w he=>?_);cases e with
 | normal=>
  obtain⟨t',S',G2,⟨z,z1,z2,z3⟩,le,SQ,Xk⟩:=he;obtain⟨G3,b1,b2,b3⟩:=z1 n G2 a w SQ Xk;exact⟨(z,G3),⟨z2,(hle.trans le).trans b1,b2,b3⟩,z3⟩
 | exit id=>exact Gg.QP he hle
 | ret=>exact Gg.QP he hle
 | goto l=>exact he
 | panic c=>exact he
 | outgrown=>exact he
theorem Vc.join{σ:Type}{t:Env}{S:St}(J:σ->Prop)(T:σ->Env)(Z:σ->St)(K:Env->St->Prop)(hK:∀y,J y->∀t S,Rm t S (T y) (Z y)->K t S)(h:Vc P n c { Q with Q8:=λt S=>∃z,Rm t S (T z) (Z z)/\J z } t S):Vc P n c { Q with Q8:=K } t S:=by
 intro ro QT G a w hr ht;refine wpIn_mono (h ro QT G a w hr ht) (λe a w he=>?_);cases e with
 | normal=>
  obtain⟨t',S',G2,⟨z,z1,z2⟩,le,SQ,Xk⟩:=he;exact⟨t',S',G2,hK z z2 _ _ z1,le,SQ,Xk⟩
 | exit id=>exact he
 | ret=>exact he
 | goto l=>exact he
 | panic c=>exact he
 | outgrown=>exact he
def Wl(P:Program)(n:Nat)(ops l:List Oper)(K:Env->St->Prop)(t:Env)(S:St):Prop:=(∀o∈l,∀d,o.dst=some d->d<n)->∀(ro:Option Nat) (G:Qh) (a:Act) (w:World) (Q:Exit->Act->World->Prop),Rel G S w->TR n G t a->(∀a w,lift n G K a w->Q .normal a w)->wpListIn (Xr ro) 0 P ops.toArray Q l a w
variable{ops rest:List Oper}{K:Env->St->Prop}{rg:Nat}{d:Option Nat}{op:Op}{ty:TypeId}{pos:String}{after:Array Edge}
theorem Wl.wk{l:List Oper}(hw:Rm t S t' S')(h:Wl P n ops l K t' S'):Wl P n ops l K t S:=λQT ro G a w Q hr ht hQ=>
 let ⟨G',a1,a2,a3⟩:=hw n G a w hr ht
 h QT ro G' a w Q a2 a3 (λa w hl=>hQ a w (Gg.QP hl a1))
theorem Wl.nil(h:K t S):Wl P n ops [] K t S:=λ_ _ G a w _ hr ht hQ=>hQ a w ⟨t,S,G,h,Qh.le.refl G,hr,ht⟩
theorem Wl.step{o:Oper}(rg:Nat)(hv:vop P rg o t S (λv S'=>Wl P n ops rest K (dh t o.dst v) S'))(hg:o.guard=none):Wl P n ops (o::rest) K t S:=by intro QT ro G a w Q hr ht hQ;have hdo:=QT o Qy;have aaT:∀o∈rest,∀d,o.dst=some d->d<n:=λo ho=>QT o (by simp[ho]);unfold wpListIn;rw[if_pos (by simp[Region.wanted,hg])];refine(nD hv ro G a w _ Q hr ht (λv av S' G' w' hk hle SQ hav=>?_));exact hk aaT ro G' _ w' Q SQ ((ht.mono hle).put hdo hav) (λa w hl=>hQ a w (Gg.QP hl hle))
theorem Wl.cons(rg:Nat)(h:vo P rg d op t S (λv S'=>Wl P n ops rest K (dh t d v) S')):Wl P n ops (⟨d,op,ty,pos,after,none⟩::rest) K t S:=Wl.step rg h rfl
theorem Wl.guard{j g:Nat}{b:Bool}(hd:(ops[j]?).bind (·.dst)=some g)(hb:t g = .bool b)(h1:b=want->Wl P n ops (⟨d,op,ty,pos,after,none⟩::rest) K t S)(h2:b = !want->Wl P n ops rest K (dh t d (.tuple [])) S):Wl P n ops (⟨d,op,ty,pos,after,some (j,want)⟩::rest) K t S:=by
 intro QT ro G a w Q hr ht hQ;have hy:=Hm ht hd hb;have hw:Region.wanted ⟨d,op,ty,pos,after,some (j,want)⟩ (yielded ops.toArray a.tmps)=(b==want):=by simp only[Region.wanted,hy];cases b<;>cases want<;>rfl
 by_cases hbw:b=want
 ·have:=h1 hbw (λo ho d hd=>by
   rcases List.mem_cons.1 ho with e|e;·subst e;exact QT _ List.mem_cons_self d hd
   ·exact QT o (by simp[e]) d hd) ro G a w Q hr ht hQ
  unfold wpListIn at this ⊢;rw[if_pos (by rw[hw];simp[hbw])];rw[if_pos (by simp[Region.wanted])]at this;exact this
 ·unfold wpListIn;rw[if_neg (by rw[hw];simp[hbw])];have Yg:b = !want:=by cases b<;>cases want<;>simp_all
  exact⟨λ_ _=>trivial,h2 Yg (λo ho=>QT o (by simp[ho])) ro G _ w Q hr (ht.put (QT _ List.mem_cons_self) (VR.undef G)) hQ⟩
theorem Wl.abd{j g:Nat}(hd:(ops[j]?).bind (·.dst)=some g)(hb:t g = .tuple [])(h2:Wl P n ops rest K (dh t d (.tuple [])) S):Wl P n ops (⟨d,op,ty,pos,after,some (j,want)⟩::rest) K t S:=by
 intro QT ro G a w Q hr ht hQ;have h1:=ht.2.2 g;rw[hb]at h1;have hy:yielded ops.toArray a.tmps j=none:=by
  generalize hv:a.tmps.getD g undef=v at h1;cases h1 with
  | tuple _ xs q1 _=>
  unfold yielded;simp only[List.getElem?_toArray,hd];rw[Array.getD_eq_getD_getElem?]at hv;cases hg:a.tmps[g]? with
  | none=>simp[hg]
  | some x=>rw[hg]at hv;simp at hv;subst hv;simp[hg]
 unfold wpListIn;rw[if_neg (by simp[Region.wanted,hy])];exact⟨λ_ _=>trivial,h2 (λo ho=>QT o (by simp[ho])) ro G _ w Q hr (ht.put (QT _ List.mem_cons_self) (VR.undef G)) hQ⟩
theorem Vc.region{id:Nat}{l:List Oper}(h:Wl P n l l Q.Q8 t S):Vc P n (.region id l.toArray false) Q t S:=by
 intro ro QT G a w hr ht;refine wpIn_region_list ?_;have hd:∀o∈l,∀d,o.dst=some d->d<n:=λo ho d hd=>by have:=Array.all_eq_true_iff_forall_mem.1 QT o (by simpa using ho);simpa[hd]using this
 have:=h hd ro G a w (Q.lift n G) hr ht (λa w hl=>hl);simpa using this
theorem Vc.drawn(hm:P.follows .mixedOrders=true){id:Nat}{l:List Oper}(rg:Nat)(us:Nat->S9)(QT:lL n l=true)(h:RK P rg us l l 0 [] t S Q.Q8):Vc P n (.region id l.toArray true) Q t S:=by intro ro _ G a w hr ht;exact wpIn_region_any hm (Mp rg us QT h ro G a _ (Q.lift n G) (hr.drawn _) ht (λa w hl=>hl))
end
theorem Nl{P:Program}{f:FuncId}{fn:Func}{as:List AV}{S:St}{R:AV->St->Prop}{n:Nat}{rs:List ResultVar}(hf:P.funcs[f]? = some fn)(hb:fn.body=some c)(hn:fn.ntmps=n)(Vy:fn.results=rs.toArray)(QT:(kN P f&&kL false n c&&decide (as.length<=n))=true)(h:∀rg,(∀k,S rg k=none)->Vc P n c ⟨BB P rs R,λ_ _ _=>False,BB P rs R⟩ (args as) S):Ctr P f as S R:=by
 subst hn;simp only[and_eq_true,decide_eq_true_eq]at QT;obtain⟨⟨hc,aeg⟩,hlen⟩:=QT;refine⟨hc,λG w vs hr V8=>?_⟩;obtain⟨rg,SY⟩:=hr.S6;let G1:Qh:={ G with base:=w.heap.size };have TH:Rel G1 S w:=hr.turn rfl rfl rfl (r_ w) (λb e=>by cases e) hr.below.2.1 (le_refl _);have hsb:G.sb G1:=⟨λ_ _ _ e=>e,λ_ _ _ _ e=>e⟩;have ht:TR fn.ntmps G1 (args as) { tmps:=vs++Array.replicate (fn.ntmps-vs.size) undef,defers:=[] }:=by
  refine⟨sQ.nil G1,by
   have h0:vs.size=as.length:=V8.1;show(vs++Array.replicate (fn.ntmps-vs.size) undef).size=fn.ntmps;simp only[Array.size_append,Array.size_replicate];omega,λi=>?_⟩
  unfold args;rw[Array.getD_eq_getD_getElem?,List.getD_eq_getElem?_getD];by_cases hi:i<as.length
  ·have Q9:i<vs.size:=by have h0:vs.size=as.length:=V8.1;omega
   rw[Array.getElem?_append_left Q9,List.getElem?_eq_getElem hi,Array.getElem?_eq_getElem Q9];exact(V8.2 i hi Q9).re hsb
  ·rw[List.getElem?_eq_none om];exact .Qz _
 have hV:=h rg SY none aeg G1 _ w TH ht;refine callsIn_wide.1 (callsIn_of_wp_marks (F:=Fence.wide) (n:=0) hf hb trivial (wpIn_mono hV (λe a w' he=>?_)));have fin:lift fn.ntmps G1 (BB P rs R) a w'->LeavesInM Fence.wide 0 P fn a.tmps (λe w'=>∃v av S' G',e = .returned v/\R av S'/\G.le G'/\Rel G' S' w'/\VR G' av v) a.defers .returning w':=by
  rintro⟨t',S',G1',hk,Wm,agR,aaL⟩;have out:∀w'' (G':Qh),G.le G'->G'.RM=G1'.RM->G'.loc=G1'.loc->Rel G' S' w''->LeavesInM Fence.wide 0 P fn a.tmps (λe w'=>∃v av S' G',e = .returned v/\R av S'/\G.le G'/\Rel G' S' w'/\VR G' av v) [] .returning w'':=by
   intro w' G' hle q1 q2 SQ;have agK:G1'.sb G':=⟨λb o u e=>by rw[q1];exact e,λr k g L e=>by rw[q2];exact e⟩;have Xk:TR fn.ntmps G' t' { tmps:=a.tmps,defers:=[] }:=⟨sQ.nil G',aaL.2.1,λi=>(aaL.2.2 i).re agK⟩;show ∃v,_;have X3:fn.results.toList=rs:=by rw[Vy]
   obtain⟨xs,vs',h1,h2,h3,h4⟩:=pi SQ Xk rs _ hk;have RI:(results fn a.tmps).run P w' = .ok (if h:xs.length=1 then xs[0]else .tuple xs.toArray) w':=by simp only[results,Array.mapM_eq_mapM_toList,Sem.run_bind,Sem.run_map,X3];erw[h1];simp
   have hV:VR G' (Hp vs') (if h:xs.length=1 then xs[0]else .tuple xs.toArray):=by
    by_cases h1:xs.length=1
    ·rw[dif_pos h1];match vs',h3,h4 with
     | [v],_,h4=>exact h4 0 Qy om
     | [],h3,_=>exact absurd h3 (by simp only[List.length_nil];omega)
     | _::_::_,h3,_=>exact absurd h3 (by simp only[List.length_cons];omega)
    ·rw[dif_neg h1];have:Hp vs' = .tuple vs':=by
      match vs',h3 with
      | [v],h3=>exact absurd h3 (by simp only[List.length_cons,List.length_nil];omega)
      | [],_=>rfl
      | _::_::_,_=>rfl
     rw[this];exact .tuple _ _ (by simpa using h3) (λi h h'=>by simpa using h4 i h (by simpa using h'))
   obtain⟨v2,S2,G2,hR,b1,b2,b3⟩:=h2 G' w' _ SQ hV;exact⟨_,RI,_,v2,S2,G2,rfl,hR,hle.trans b1,b2,b3⟩
  have Sj:∀(l:List Deferred) (w':World) (K:Qh),K.init=G1'.init->K.RM=G1'.RM->K.loc=G1'.loc->K.base=G1'.base->(∀b,G.Xa b->K.Xa b)->Rel K S' w'->sQ K l->LeavesInM Fence.wide 0 P fn a.tmps (λe w'=>∃v av S' G',e = .returned v/\R av S'/\G.le G'/\Rel G' S' w'/\VR G' av v) l .returning w':=by
   intro l;induction l with
   | nil=>
    intro w' K k1 k2 k3 k4 k5 hK _;let G':Qh:={ K with base:=G.base,Xa:=λb=>K.Xa b/\b<w.heap.size };refine out w' G' ⟨⟨k1.trans Wm.init.1,λb hb=>⟨k5 b hb,(Array.getElem?_eq_some_iff.1 (hr.below.2.1 b hb)).1⟩,rfl⟩,λb o u e=>by show K.RM b o=some u;rw[k2];exact Wm.RM b o u e,λr k g L e=>by show K.loc r k g=some L;rw[k3];exact Wm.loc r k g L e⟩ k2 k3 (hK.turn rfl rfl rfl (r_ w') (λb e=>by cases e) (λb hb=>hK.below.2.1 b hb.1) ?_);have:=hK.below.2.2;rw[k4,Wm.init.2.2]at this;exact Nat.le_trans hr.below.2.2 this
   | cons d l ih=>
    intro w' K k1 k2 k3 k4 k5 hK hm;obtain⟨D,rfl,hD1,YK⟩:=hm.2 d List.mem_cons_self;have hD:=hK.below.2.1 D YK;have hDw:w.heap.size<=D:=by rw[k4,Wm.init.2.2]at hD1;exact hD1
    have QI:∀e∈l,e≠yy D:=λe he hc=>(List.nodup_cons.1 hm.1).1 (hc▸he);refine⟨by simp,.inl ⟨D,_,rfl,run_takeDeferred hD,ih _ { K with Xa:=λb=>K.Xa b/\b≠D } k1 k2 k3 k4 (λb hb=>⟨k5 b hb,λhc=>?_⟩) (hK.turn rfl rfl rfl (grownBy_putObj' w' D (.deferred none)) (λb e=>?_) (λb hb=>?_) ?_) ⟨(List.nodup_cons.1 hm.1).2,λe he=>?_⟩⟩⟩;·have:=(Array.getElem?_eq_some_iff.1 (hr.below.2.1 b hb)).1;omega
    ·cases e;exact⟨by have:=hr.below.1.size;rw[k1,Wm.init.1];show G.init.heap.size<=D;omega,_,hD⟩
    ·exact(World.putObj_heap_other hb.2).trans (hK.below.2.1 b hb.1)
    ·rw[World.putObj_size];exact hK.below.2.2
    ·obtain⟨E,rfl,hE1,hE2⟩:=hm.2 e (List.mem_cons_of_mem _ he);exact⟨E,rfl,hE1,hE2,λhc=>QI _ he (by rw[hc])⟩
  exact Sj a.defers w' G1' rfl rfl rfl rfl (λb hb=>Wm.init.2.1 b hb) agR aaL.1
 cases e with
 | normal=>exact fin he
 | ret=>exact fin he
 | exit id=>obtain⟨_,_,_,h,_⟩:=he;exact h.elim
 | goto l=>exact he.elim
 | panic c=>exact he.elim
 | outgrown=>exact he.elim
end Go.Gg
namespace Go.Gg
open Go.RowKit (Below)
def aO{σ:Type}(x:σ)(body:σ->(σ->Prop)->Prop):Prop:=∃(I:σ->Prop) (μ:σ->Nat),I x/\∀y,I y->body y (λz=>I z/\μ z<μ y)
def bV{α:Type}(f:(α->Prop)->Prop)(k:α->Prop):Prop:=∃J:α->Prop,f J/\∀x,J x->k x
def af(c:Bool)(a b:Prop):Prop:=(c=true->a)/\(c=false->b)
def my{α:Type}(f:(α->Prop)->Prop)(k:α->Prop):Prop:=∃r,f (λx=>x=r)/\k r
def kf{α:Type}(e:α)(k:α->Prop):Prop:=∀v,v=e->k v
def jo(b:Nat)(n m:Int):Prop:=0<=n/\n<=m/\(b:Int)*m<=281474976710656/\m<=9223372036854775807
def Qe(n:Int):Prop:=-9223372036854775808<=n/\n<=9223372036854775807
theorem Qo{n:Int}(h:Qe n:=by  unfold Qe;omega):Qe n:=h
def P9{α:Type}[Inhabited α](l:List α)(i:Int):α:=l.getD i.toNat default
def Qt{α:Type}(l:List α)(i:Int)(x:α):List α:=l.set i.toNat x
def fV{α:Type}(l:List α)(i j:Int):List α:=(l.drop i.toNat).take (j.toNat-i.toNat)
def bA{α:Type}(n:Int)(x:α):List α:=List.replicate n.toNat x
abbrev eL{α:Type}(e:α->AV)(l:List α):AV:=.list (l.map e)
def bd(T:TypeId):Option Int->AV
 | none=>.Qg
 | some n=>.iface T (.int .i64 n)
theorem oS{a b:Nat}(h:a≠b):beq a b=false:=by
 cases e:beq a b with
 | false=>rfl
 | true=>exact absurd (Nat.eq_of_beq_eq_true e) h
theorem BM{a b:Nat}(h:beq a b=false):a≠b:=by rintro rfl;simp at h
abbrev dG:=List (Nat×QW×Nat)
def SK:dG->Nat->Option (QW×Nat)
 | [],_=>none
 | (k,x)::l,j=>bif beq j k then some x else SK l j
def dlt:dG->Nat->dG
 | [],_=>[]
 | (k,x)::l,j=>bif beq j k then dlt l j else (k,x)::dlt l j
def Qr(S0:St)(rg:Nat)(l:dG):St:=λr k=>if r=rg then SK l k else S0 r k
variable{l:dG}{rg k:Nat}{S0:St}
theorem jD:Qr S0 rg l rg k=SK l k:=by simp[Qr]
variable{r:Nat}
theorem qY(h:r≠rg):Qr S0 rg l r k=S0 r k:=by simp[Qr,h]
variable{g:Nat}
theorem jt{o:QW}:(Qr S0 rg l).set rg k o g=Qr S0 rg ((k,o,g)::l):=by
 funext r k';simp only[St.set,Qr,SK];by_cases h:r=rg
 ·subst h;by_cases h':k'=k;·subst h';simp
  ·simp[h',oS h']
 ·simp[h]
theorem KN{j:Nat}:SK (dlt l k) j=bif beq j k then none else SK l j:=by
 induction l with
 | nil=>cases beq j k<;>rfl
 | cons p l ih=>
  obtain⟨a,x⟩:=p;simp only[dlt,SK];by_cases h:k=a
  ·subst h;have:beq k k=true:=by simp
   rw[this,cond_true,ih];cases beq j k<;>rfl
  ·have:beq k a=false:=oS h;rw[this,cond_false,SK,ih];by_cases h':j=a;·subst h';have:beq j k=false:=oS (Ne.symm h);simp[this]
   ·have:beq j a=false:=oS h';rw[this,cond_false,cond_false]
theorem Fd:(Qr S0 rg l).del rg k=Qr S0 rg (dlt l k):=by
 funext r k';simp only[St.del,Qr,KN];by_cases h:r=rg
 ·subst h;by_cases h':k'=k;·subst h';simp
  ·simp[h',oS h']
 ·simp[h]
variable{S:St}
theorem wV(h:∀k,S rg k=none):Qr S rg []=S:=by
 funext r k;simp only[Qr,SK];split;·rename_i e;subst e;rw[h]
 ·rfl
theorem Gk(h:∀k,S rg k=none):(Qr S rg l).clear rg=S:=by
 funext r k;simp only[Qr,St.clear];split;·rename_i e;subst e;rw[h]
 ·rfl
def zo(l:dG):dG->Prop
 | []=>True
 | (k,x)::m=>SK l k=some x/\zo l m
theorem zo.sub{S0:St}{rg:Nat}{l m:dG}(h:zo l m):(Qr S0 rg m).sub (Qr S0 rg l):=by
 intro r k x hx;simp only[Qr]at hx ⊢;split
 ·rename_i e;rw[if_pos e]at hx;induction m with
  | nil=>simp[SK]at hx
  | cons p m ih=>
   obtain⟨j,y⟩:=p;simp only[SK]at hx;by_cases hk:k=j
   ·subst hk;have:beq k k=true:=by simp
    rw[this,cond_true]at hx;rw[<-hx];exact h.1
   ·have:beq k j=false:=oS hk;rw[this,cond_false]at hx;exact ih h.2 hx
 ·rename_i e;rw[if_neg e]at hx;exact hx
def aC:List (Nat×AV)->Env
 | []=>λ_=>.Qz
 | (k,v)::l=>λi=>bif beq i k then v else aC l i
def Fit(t:Env):List (Nat×AV)->Prop
 | []=>True
 | (k,v)::l=>VW (t k) v/\Fit t l
theorem Fit.vw{t:Env}:∀ {l:List (Nat×AV)},Fit t l->∀i,VW (t i) (aC l i)
 | [],_,i=>VW.Qz _
 | (k,v)::l,h,i=>by
  simp only[aC];by_cases hi:i=k
  ·subst hi;have:beq i i=true:=by simp
   rw[this];exact h.1
  ·have:beq i k=false:=oS hi;rw[this];exact h.2.vw i
variable{t:Env}{es:List (Nat×AV)}{m:dG}
theorem canon(hf:Fit t es)(hs:zo l m):Rm t (Qr S0 rg l) (aC es) (Qr S0 rg m):=λ_ G _ _ hr ht=>⟨G,Qh.le.refl G,hr.sub hs.sub,ht.1,ht.2.1,λi=>hf.vw i G _ (ht.2.2 i)⟩
variable{xs:List AV}{kk:Nat}
theorem aU(hS:SK l k=some (.arr kk xs,g))(hf:Fit (λi=>Wp rg k g kk xs (t i)) es)(hs:zo (dlt l k) m) :Rm t (Qr S0 rg l) (aC es) (Qr S0 rg m):=by have h1:=Rm.W8 (t:=t) (S:=Qr S0 rg l) (r:=rg) (by rw[jD];exact hS);rw[Fd]at h1;exact h1.trans (canon hf hs)
variable{α:Type}{n:Nat}{e:α->AV}
theorem aR{xs:List α}(h:n=xs.length):VW (Wp r k g kk (xs.map e) (.sl kk r k g 0 n)) (eL e xs):=by
 have:Wp r k g kk (xs.map e) (.sl kk r k g 0 n)=eL e xs:=by subst h;simp[Wp,Et,wK,eL,List.take_of_length_le]
 rw[this];exact VW.refl _
variable{off:Nat}
theorem kz{k' g' Um:Nat}(h:beq k' k=false):VW (Wp r k g kk xs (.sl Um r k' g' off n)) (.sl Um r k' g' off n):=by
 have h':k'≠k:=BM h;have:Wp r k g kk xs (.sl Um r k' g' off n) = .sl Um r k' g' off n:=by simp[Wp,Et,wK,h']
 rw[this];exact VW.refl _
theorem Vc.V6{P:Program}{n:Nat}{c:Code}{Q:AK}{t:Env}{S0:St}{rg:Nat}{l:dG}(d k kk:Nat)(h0:t d = .nil)(hk:0<kk)(h:∀g,Vc P n c Q (SR t d (.sl kk rg k g 0 0)) (Qr S0 rg ((k,.arr kk [],g)::l))):Vc P n c Q t (Qr S0 rg l):=by
 intro ro QT G a w hr ht;obtain⟨g,G',q1,q2,q3⟩:=hr.V6 rg k kk hk;rw[jt]at q2;refine wpIn_mono (h g ro QT G' a w q2 ⟨ht.1.mono q1,ht.2.1,λi=>?_⟩) (λ_ _ _ he=>AK.QP q1 he);unfold SR;split;·rename_i e;subst e;have:=ht.2.2 i;rw[h0]at this;generalize a.tmps.getD i undef=x at this ⊢;cases this;exact q3
 ·exact(ht.2.2 i).mono q1
variable{R:AV->St->Prop}{P:Program}{c:Code}
theorem ar{f:FuncId}{fn:Func}{as:List AV}{rs:List ResultVar}(hf:P.funcs[f]? = some fn)(hb:fn.body=some c)(hn:fn.ntmps=n)(Vy:fn.results=rs.toArray)(QT:(kN P f&&kL false n c&&decide (as.length<=n))=true)(h:∀rg,(∀k,S rg k=none)->Vc P n c ⟨BB P rs R,λ_ _ _=>False,BB P rs R⟩ (args as) (Qr S rg [])):Ctr P f as S R:=Nl hf hb hn Vy QT (λrg SY=>by rw[<-wV SY];rw[wV SY];have:=h rg SY;rw[wV SY]at this;exact this)
theorem ak{v v':AV}(SY:∀k,S rg k=none)(hv:VW v v')(h:R v' S):dz R v (Qr S rg l):=by refine dz.drop rg ?_;rw[Gk SY];exact dz.wk (Wk.of hv) (dz.now h)
theorem aX{v v':AV}(hS:SK l k=some (.arr kk xs,g))(hv:VW (Wp rg k g kk xs v) v')(h:dz R v' (Qr S rg (dlt l k))):dz R v (Qr S rg l):=by refine dz.wk (Wk.freeze (by rw[jD];exact hS)) ?_;rw[Fd];exact dz.wk (Wk.of hv) h
def SG:List AV->List AV->Prop
 | [],[]=>True
 | a::l,b::m=>VW a b/\SG l m
 | _,_=>False
theorem SG.len:∀ {l m:List AV},SG l m->m.length=l.length
 | [],[],_=>rfl
 | _::_,_::_,h=>by simp[h.2.len]
theorem SG.at:∀ {l m:List AV},SG l m->∀i (h1:i<l.length) (h2:i<m.length),VW l[i] m[i]
 | a::l,b::m,h,0,_,_=>h.1
 | a::l,b::m,h,i+1,h1,h2=>h.2.at i (by simpa using h1) (by simpa using h2)
theorem VW.Sb{l m:List AV}(h:SG l m):VW (.agg l) (.agg m):=VW.agg h.len (λi a b=>h.at i a b)
theorem VW.QF{l m:List AV}(h:SG l m):VW (.tuple l) (.tuple m):=VW.tuple h.len (λi a b=>h.at i a b)
theorem VW.QC:VW .nil (eL e []):=VW.nil
def exB(id:Nat)(Q8:Env->St->Prop)(ex:Nat->Env->St->Prop):Nat->Env->St->Prop:=λi t S=>if i=id then Q8 t S else ex i t S
variable{ex:Nat->Env->St->Prop}{Q8:Env->St->Prop}{id:Nat}
theorem rC(h:Q8 t S):exB id Q8 ex id t S:=by unfold exB;rw[if_pos rfl];exact h
theorem Nj{i:Nat}(hi:beq i id=false)(h:ex i t S):exB id Q8 ex i t S:=by unfold exB;rw[if_neg (BM hi)];exact h
theorem Vc.Xs{ret:Env->St->Prop}(h:Vc P n c ⟨Q8,exB id Q8 ex,ret⟩ t S):Vc P n (.block id c) ⟨Q8,ex,ret⟩ t S:=Vc.block h
variable{cs vs us:List AV}{k':IntKind}{ts:Array TypeId}{enc:α->AV}{fs:List (Nat×TypeId)}{o:Option Int}{et E:TypeId}{b:Bool}{f Ti:Nat}
section
variable{P:Program}{n rg:Nat}{d:Option Nat}{t:Env}{S S0:St}{L:dG}{K:AV->St->Prop}{ty:TypeId}{x y i:Operand}{v a:AV}{k:IntKind}{m q:Int}{T T' e:TypeId}
theorem Ir(hx:ev t x=v)(h:K v S):vo P rg d (.move x) t S K:=by rw[YT,hx];exact h
theorem bX(hx:ev t x=v)(h:K v S):vo P rg d (.assign x) t S K:=by rw[WM,hx];exact h
theorem LW(hx:ev t x = .int k m)(hy:ev t y = .int k q)(h:K (.int k (k.wrap (m+q))) S):vo P rg d (.binOp .add T x y T') t S K:=by rw[Q5,hx,hy];exact⟨rfl,h⟩
theorem LM(hx:ev t x = .int k m)(hy:ev t y = .int k q)(h:K (.int k (k.wrap (m-q))) S):vo P rg d (.binOp .sub T x y T') t S K:=by rw[Q5,hx,hy];exact⟨rfl,h⟩
theorem LP(hx:ev t x = .int k m)(hy:ev t y = .int k q)(h:K (.int k (k.wrap (m*q))) S):vo P rg d (.binOp .mul T x y T') t S K:=by rw[Q5,hx,hy];exact⟨rfl,h⟩
theorem RG(h:Qe m):IntKind.i64.wrap m=m:=RX h.1 h.2
theorem i_(hx:ev t x = .int .i64 m)(hy:ev t y = .int .i64 q)(hb:Qe (m+q))(h:K (.int .i64 (m+q)) S):vo P rg d (.binOp .add T x y T') t S K:=LW hx hy (by rw[RG hb];exact h)
theorem cL(hx:ev t x = .int .i64 m)(hy:ev t y = .int .i64 q)(hb:Qe (m-q))(h:K (.int .i64 (m-q)) S):vo P rg d (.binOp .sub T x y T') t S K:=LM hx hy (by rw[RG hb];exact h)
theorem Iq(hx:ev t x = .int .i64 m)(hy:ev t y = .int .i64 q)(hb:Qe (m*q))(h:K (.int .i64 (m*q)) S):vo P rg d (.binOp .mul T x y T') t S K:=LP hx hy (by rw[RG hb];exact h)
theorem Io(hx:ev t x = .int k m)(hy:ev t y = .int k q)(hb:q≠0)(h:K (.int k (k.wrap (m.tdiv q))) S):vo P rg d (.binOp .quo T x y T') t S K:=by rw[Q5,hx,hy];exact⟨rfl,hb,h⟩
theorem uY(hx:ev t x = .int .i64 m)(hy:ev t y = .int .i64 q)(hb:q≠0/\Qe (m.tdiv q))(h:K (.int .i64 (m.tdiv q)) S):vo P rg d (.binOp .quo T x y T') t S K:=Io hx hy hb.1 (by rw[RG hb.2];exact h)
theorem sI(hx:ev t x = .int k m)(hy:ev t y = .int k q)(hb:q≠0)(h:K (.int k (m.tmod q)) S):vo P rg d (.binOp .rem T x y T') t S K:=by rw[Q5,hx,hy];exact⟨rfl,hb,h⟩
theorem Ou(hx:ev t x = .int k m)(hy:ev t y = .int k q)(h:K (.int k (bits .and k m q)) S):vo P rg d (.binOp .and T x y T') t S K:=by rw[Q5,hx,hy];exact⟨rfl,h⟩
theorem MW(hx:ev t x = .int k m)(hy:ev t y = .int k q)(h:K (.int k (bits .or k m q)) S):vo P rg d (.binOp .or T x y T') t S K:=by rw[Q5,hx,hy];exact⟨rfl,h⟩
theorem On(hx:ev t x = .int k m)(hy:ev t y = .int k q)(h:K (.int k (bits .xor k m q)) S):vo P rg d (.binOp .xor T x y T') t S K:=by rw[Q5,hx,hy];exact⟨rfl,h⟩
theorem Iy(hx:ev t x = .int k m)(hy:ev t y = .int k q)(h:K (.int k (bits .andNot k m q)) S):vo P rg d (.binOp .andNot T x y T') t S K:=by rw[Q5,hx,hy];exact⟨rfl,h⟩
theorem LS(hx:ev t x = .int k m)(hy:ev t y = .int k q)(h:K (.bool (m==q)) S):vo P rg d (.binOp .eql T x y T') t S K:=by rw[Q5,hx,hy];exact⟨rfl,h⟩
theorem LN(hx:ev t x = .int k m)(hy:ev t y = .int k q)(h:K (.bool (m != q)) S):vo P rg d (.binOp .neq T x y T') t S K:=by rw[Q5,hx,hy];exact⟨rfl,h⟩
theorem Fv(hx:ev t x = .int k m)(hy:ev t y = .int k q)(h:K (.bool (decide (m<q))) S):vo P rg d (.binOp .lss T x y T') t S K:=by rw[Q5,hx,hy];exact⟨rfl,h⟩
theorem Oq(hx:ev t x = .int k m)(hy:ev t y = .int k q)(h:K (.bool (decide (m<=q))) S):vo P rg d (.binOp .leq T x y T') t S K:=by rw[Q5,hx,hy];exact⟨rfl,h⟩
theorem It(hx:ev t x = .int k m)(hy:ev t y = .int k q)(h:K (.bool (decide (q<m))) S):vo P rg d (.binOp .gtr T x y T') t S K:=by rw[Q5,hx,hy];exact⟨rfl,h⟩
theorem Iu(hx:ev t x = .int k m)(hy:ev t y = .int k q)(h:K (.bool (decide (q<=m))) S):vo P rg d (.binOp .geq T x y T') t S K:=by rw[Q5,hx,hy];exact⟨rfl,h⟩
theorem wg(hx:ev t x = .int k m)(hy:ev t y = .int k' q)(hb:0<=q/\q<=k.bits)(h:K (.int k (k.wrap (m*2^q.toNat))) S):vo P rg d (.binOp .shl T x y T') t S K:=by rw[Q5,hx,hy];exact⟨hb.1,hb.2,h⟩
theorem lz(hx:ev t x = .int .i64 m)(hy:ev t y = .int k' q)(hb:(0<=q/\q<=64)/\Qe (m*2^q.toNat))(h:K (.int .i64 (m*2^q.toNat)) S):vo P rg d (.binOp .shl T x y T') t S K:=wg hx hy hb.1 (by rw[RG hb.2];exact h)
theorem we(hx:ev t x = .int k m)(hy:ev t y = .int k' q)(hb:0<=q/\q<=k.bits)(h:K (.int k (m/2^q.toNat)) S):vo P rg d (.binOp .shr T x y T') t S K:=by rw[Q5,hx,hy];exact⟨hb.1,hb.2,h⟩
theorem M6{p r:Bool}(hT:td P T = .bool)(hx:ev t x = .bool p)(hy:ev t y = .bool r)(h:K (.bool (p==r)) S):vo P rg d (.binOp .eql T x y T') t S K:=by rw[Q5,hx,hy];exact⟨hT,h⟩
theorem M0{p r:Bool}(hT:td P T = .bool)(hx:ev t x = .bool p)(hy:ev t y = .bool r)(h:K (.bool (p != r)) S):vo P rg d (.binOp .neq T x y T') t S K:=by rw[Q5,hx,hy];exact⟨hT,h⟩
theorem Fx(hT:td P T = .iface)(hx:ev t x=bd E o)(hy:ev t y = .Qg)(hc:(iU x||iU y)=true)(h:K (.bool o.isNone) S):vo P rg d (.binOp .eql T x y T') t S K:=by
 rw[Q5,hx,hy];cases o with
 | none=>exact⟨hT,hc,h⟩
 | some n=>exact⟨hT,h⟩
theorem Fw(hT:td P T = .iface)(hx:ev t x=bd E o)(hy:ev t y = .Qg)(hc:(iU x||iU y)=true)(h:K (.bool o.isSome) S):vo P rg d (.binOp .neq T x y T') t S K:=by
 rw[Q5,hx,hy];cases o with
 | none=>exact⟨hT,hc,h⟩
 | some n=>exact⟨hT,h⟩
theorem qG(hx:ev t x = .bool b)(h:K (.bool (!b)) S):vo P rg d (.unOp .not T x) t S K:=by rw[Zw,hx];exact h
theorem LO(hx:ev t x = .int k m)(h:K (.int k (k.wrap (0-m))) S):vo P rg d (.unOp .neg T x) t S K:=by rw[Zw,hx];exact h
theorem M3(hx:ev t x = .int .i64 m)(hb:Qe (-m))(h:K (.int .i64 (-m)) S):vo P rg d (.unOp .neg T x) t S K:=LO hx (by rw[Int.zero_sub,RG hb];exact h)
theorem Iv{s:TypeId}(hs:td P s = .int k)(hT:td P T = .int k')(hx:ev t x = .int k m)(h:K (.int k' (k'.wrap m)) S):vo P rg d (.convert s T x) t S K:=by rw[YW,hx,hT,hs];exact h
theorem Kx(hT:(match td P T with|.iface|.other=>False|_=>True))(hx:ev t x=v)(h:K (.iface T v) S):vo P rg d (.makeInterface T x) t S K:=by rw[Xw,hx];exact⟨hT,h⟩
theorem gS{fn:Fn}{as bs:List Operand}(ha:as.map (ev t)=vs)(hb:bs.map (ev t)=us)(h:K (.fn fn vs us) S):vo P rg d (.makeFunc fn as.toArray bs.toArray) t S K:=by rw[YV,ha,hb];exact h
theorem MY(hx:ev t x = .Q2 cs)(h:K (.Q2 cs) S):vo P rg d (.nilCheck x) t S K:=by rw[T0,hx];exact⟨trivial,h⟩
theorem MX{k i:Nat}(hx:ev t x = .ptr r k g i off)(h:K (.ptr r k g i off) S):vo P rg d (.nilCheck x) t S K:=by rw[T0,hx];exact⟨trivial,h⟩
theorem Gv{i:Nat}(hx:ev t x = .tuple vs)(hi:ble (i+1) vs.length=true)(hv:vs.getD i .Qz=v)(h:K v S):vo P rg d (.extract x i) t S K:=by rw[Wf,hx];exact⟨le_of_ble_eq_true hi,by rw[hv];exact h⟩
theorem DT{P:Program}{T:TypeId}{S:St}{K:AV->Prop}:jL P T (.list cs) S K=uM P T (.list cs) K:=by unfold jL;rfl
theorem Hy{P:Program}{T:TypeId}{k c:Nat}{S:St}{K:AV->Prop}:jL P T (.sl kk r k g off c) S K=uM P T (.sl kk r k g off c) K:=by unfold jL;rfl
theorem LR{l:List α}(hT:td P T = .slice e)(hx:ev t x=eL enc l)(h:K (.int .i64 l.length) S):vo P rg d (.call { callee:=.builtin .len,args:=#[x],argTypes:=#[T] }) t S K:=by rw[We,hx,show jL P T (eL enc l) S _=_ from DT,uM,hT];simpa using h
theorem M5{k c:Nat}(hT:td P T = .slice e)(hx:ev t x = .sl kk r k g off c)(h:K (.int .i64 c) S):vo P rg d (.call { callee:=.builtin .len,args:=#[x],argTypes:=#[T] }) t S K:=by rw[We,hx,Hy,uM,hT];exact h
theorem LQ(hx:ev t x = .int k m)(hy:ev t y = .int k q)(h:K (.int k (max m q)) S):vo P rg d (.call { callee:=.builtin .max,args:=#[x,y],argTypes:=ts }) t S K:=by
 rw[aap,hx,hy];have:(if m<q then q else m)=max m q:=by split<;>omega
 simp only[this];exact h
theorem Oo(hx:ev t x = .int k m)(hy:ev t y = .int k q)(h:K (.int k (min m q)) S):vo P rg d (.call { callee:=.builtin .min,args:=#[x,y],argTypes:=ts }) t S K:=by
 rw[aao,hx,hy];have:(if q<m then q else m)=min m q:=by split<;>omega
 simp only[this];exact h
theorem Ec{f:Operand}{xs:List Operand}{g:FuncId}{fs QG:List AV}(hf:ev t f = .fn (.func g) fs QG)(ha:SG (fs++(xs.map (ev t)++QG)) us)(h:Ctr P g us S K) :vo P rg d (.call { callee:=.value f,args:=xs.toArray,argTypes:=ts }) t S K:=by rw[YX,hf];exact Ctr.arg ha.len (λi h1 h2=>ha.at i h1 h2) h
theorem Ip{c:Operand}(hc:ev t c = .bool b)(hv:(bif b then ev t x else ev t y)=v)(h:K v S):vo P rg d (.pick c x y) t S K:=by rw[YS,hc];show K (bif b then ev t x else ev t y) S;rw[hv];exact h
theorem yK[Inhabited α]{l:List α}{i:Nat}(h:i<l.length):(l.map enc).getD i .Qz=enc (l.getD i default):=by rw[List.getD_eq_getElem?_getD,List.getD_eq_getElem?_getD];simp[h]
theorem ek[Inhabited α]{l:List α}(hT:td P T = .slice e)(hs:sz P e=kk)(h0:0<kk)(hk:∀z,(enc z).cells.length=kk)(hx:ev t x=eL enc l)(hi:ev t i = .int k m)(hb:0<=m/\m<l.length)(h:K (.Q2 (enc (P9 l m)).cells) S):vo P rg d (.indexAddr T x i) t S K:=by
 rw[Sz,hx,hi,gW,hT];have QH:m.toNat<l.length:=om;have e:(l.map enc).getD m.toNat .Qz=enc (P9 l m):=yK QH;refine⟨⟨hb.1,by simpa using hb.2⟩,⟨om,?_⟩,?_⟩;·rw[e,hk,hs]
 ·rw[e];exact h
theorem Is{k' c:Nat}(hT:td P T = .slice e)(hs:sz P e=kk)(h0:0<kk)(hx:ev t x = .sl kk r k' g off c)(hi:ev t i = .int k m)(hb:0<=m/\m<c)(h:K (.ptr r k' g (off+m.toNat) 0) S):vo P rg d (.indexAddr T x i) t S K:=by rw[Sz,hx,hi,gW,hT];exact⟨hb,⟨h0,hs.symm⟩,h⟩
theorem Pz(hT:td P T = .struct fs)(hf:fs.getD f (0,0)=(off,et))(QH:ble (f+1) fs.length=true)(hs:0<sz P et)(hx:ev t x = .Q2 cs)(hl:ble off cs.length=true)(h:K (.Q2 (cs.drop off)) S):vo P rg d (.fieldAddr T x f) t S K:=by
 rw[Tv,hx,fy,hT];refine⟨le_of_ble_eq_true QH,?_,?_,?_⟩;·rw[hf];exact hs
 ·rw[hf];exact le_of_ble_eq_true hl
 ·rw[hf];exact h
theorem Ot{k i VJ:Nat}(hT:td P T = .struct fs)(hf:fs.getD f (0,0)=(off,et))(QH:ble (f+1) fs.length=true)(hs:0<sz P et)(hx:ev t x = .ptr r k g i VJ)(h:K (.ptr r k g i (VJ+off)) S):vo P rg d (.fieldAddr T x f) t S K:=by
 rw[Tv,hx,fy,hT];refine⟨le_of_ble_eq_true QH,?_,?_⟩;·rw[hf];exact hs
 ·rw[hf];exact h
theorem ru(hs:sz P T=1)(ha:bF P T=false)(hx:ev t x = .Q2 cs)(hl:ble 1 cs.length=true)(hv:cs.getD 0 .Qz=v)(h:K v S):vo P rg d (.load T x) t S K:=by rw[Tu,hx,jK];refine⟨⟨om,λ_=>hs,by rw[hs];exact le_of_ble_eq_true hl⟩,?_⟩;unfold WA;rw[ha,cond_false,hv];exact h
theorem rt(hs:sz P T=Ti)(h0:0<Ti)(ha:bF P T=true)(hx:ev t x = .Q2 cs)(hl:ble Ti cs.length=true)(hv:AV.agg ((cs.drop 0).take Ti)=v)(h:K v S):vo P rg d (.load T x) t S K:=by rw[Tu,hx,jK];refine⟨⟨om,λhh=>(by rw[ha]at hh;cases hh),by rw[hs];exact le_of_ble_eq_true hl⟩,?_⟩;unfold WA;rw[ha,cond_true,hs,hv];exact h
theorem xk{k i:Nat}{es:List AV}(hS:S r k=some (.arr kk es,g))(hs:sz P T=Ti)(h0:0<Ti)(ha:bF P T=true\/(bF P T=false/\Ti=1))(hx:ev t x = .ptr r k g i off)(hi:i<es.length)(hl:off+Ti<=kk)(hv:(bif bF P T then AV.agg (((es.getD i .Qz).cells.drop off).take Ti)else (es.getD i .Qz).cells.getD off .Qz)=v)(h:K v S):vo P rg d (.load T x) t S K:=by
 rw[Tu,hx,jK];simp only[hS];refine⟨⟨trivial,hi,om,λhh=>?_,om⟩,?_⟩
 ·rcases ha with ha|ha;·rw[ha]at hh;cases hh
  ·rw[hs];exact ha.2
 ·unfold WA;rw[hs,hv];exact h
end
end Go.Gg
namespace Go.Gg
open Go.RowKit (Below)
theorem vr{v:AV}:VW v v:=VW.refl v
variable{k:Nat}{t:Env}
theorem fc{v:AV}{l:List (Nat×AV)}(h:VW (t k) v)(h':Fit t l):Fit t ((k,v)::l):=⟨h,h'⟩
theorem fn:Fit t []:=trivial
theorem QJ{a b:AV}{l m:List AV}(h:VW a b)(h':SG l m):SG (a::l) (b::m):=⟨h,h'⟩
theorem vn:SG [] []:=trivial
theorem sc{l m:dG}{x:QW×Nat}(h:SK l k=some x)(h':zo l m):zo l ((k,x)::m):=⟨h,h'⟩
theorem sn{l:dG}:zo l []:=trivial
variable{kk g r n off m:Nat}
theorem VW.QO(h:n=m):VW (.sl kk r k g off n) (.sl kk r k g off m):=by subst h;exact VW.refl _
variable{α:Type}
theorem yD(l:List α)(i:Int)(x:α):(Qt l i x).length=l.length:=by simp[Qt]
theorem yE(n:Int)(x:α):(bA n x).length=n.toNat:=by simp[bA]
theorem oT{i:Int}(h:0<=i/\i<(n:Int))(e:n=m):i.toNat<m:=om
variable{d:Option Nat}{c:Operand}{after:Array Edge}{pos:String}{ty:TypeId}{want b v b':Bool}{id j:Nat}{K:Env->St->Prop}{σ:Type}{op:Op}{rest ops:List Oper}
section
variable{P:Program}{n:Nat}{Q8 ret:Env->St->Prop}{ex:Nat->Env->St->Prop}{t:Env}{S:St}{x y:Code}
theorem Vc.ZC(h:Q8 t S):Vc P n .skip ⟨Q8,ex,ret⟩ t S:=Vc.skip h
theorem Vc.aah(hc:ev t c = .bool v)(h1:v=true->Vc P n x ⟨Q8,ex,ret⟩ t S)(h2:v=false->Vc P n y ⟨Q8,ex,ret⟩ t S):Vc P n (.cond c x y) ⟨Q8,ex,ret⟩ t S:=Vc.cond hc h1 h2
theorem Vc.Qb(hc:ev t c = .bool v)(hv:v=true)(h1:Vc P n x ⟨Q8,ex,ret⟩ t S):Vc P n (.cond c x y) ⟨Q8,ex,ret⟩ t S:=Vc.cond hc (λ_=>h1) (λh=>by rw[hv]at h;cases h)
theorem Vc.aeG(hc:ev t c = .bool v)(hv:v=false)(h1:Vc P n y ⟨Q8,ex,ret⟩ t S):Vc P n (.cond c x y) ⟨Q8,ex,ret⟩ t S:=Vc.cond hc (λh=>by rw[hv]at h;cases h) (λ_=>h1)
theorem Vc.aeB(h:ex id t S):Vc P n (.exit id) ⟨Q8,ex,ret⟩ t S:=Vc.exit h
theorem Vc.agd(h:ret t S):Vc P n .ret ⟨Q8,ex,ret⟩ t S:=Vc.ret h
theorem Vc.acX(I:σ->Prop)(μ:σ->Nat)(T:σ->Env)(Z:σ->St)(z:σ)(hx:Rm t S (T z) (Z z))(h0:I z)(h:∀y,I y->Vc P n x ⟨λt S=>∃z,Rm t S (T z) (Z z)/\I z/\μ z<μ y,ex,ret⟩ (T y) (Z y)):Vc P n (.loop x) ⟨Q8,ex,ret⟩ t S:=Vc.loop I μ T Z z hx h0 h
theorem Vc.ZX(J:σ->Prop)(T:σ->Env)(Z:σ->St)(hK:∀z,J z->Vc P n y ⟨Q8,ex,ret⟩ (T z) (Z z))(h:Vc P n x ⟨λt S=>∃z,Rm t S (T z) (Z z)/\J z,ex,ret⟩ t S):Vc P n (.seq x y) ⟨Q8,ex,ret⟩ t S:=Vc.seq (Vc.join (Q:=⟨Q8,ex,ret⟩) J T Z _ (λz hz _ _ hw=>Vc.wk hw (hK z hz)) h)
theorem Wl.abe(hd:(ops[j]?).bind (·.dst)=some g)(hb:t g = .bool b)(hv:b=want)(h1:Wl P n ops (⟨d,op,ty,pos,after,none⟩::rest) K t S):Wl P n ops (⟨d,op,ty,pos,after,some (j,want)⟩::rest) K t S:=Wl.guard hd hb (λ_=>h1) (λh=>by subst hv;cases b<;>cases h)
theorem Wl.abf(hd:(ops[j]?).bind (·.dst)=some g)(hb:t g = .bool b)(hv:b=b')(hn:b' = !want)(h1:Wl P n ops rest K (dh t d (.tuple [])) S):Wl P n ops (⟨d,op,ty,pos,after,some (j,want)⟩::rest) K t S:=Wl.guard hd hb (λh=>by subst hv hn;cases want<;>cases h) (λ_=>h1)
end
variable{enc:α->AV}{l:List α}{o o':QW}{KL:List AV->Prop}{z u:AV}{w:World}{rs:List ResultVar}{S':St}{parts:List (Nat×Operand)}{G:Qh}{R:AV->St->Prop}{x' z':α}{kd:IntKind}{es:List AV}{k' g' Ti:Nat}
section
variable{P:Program}{rg:Nat}{t:Env}{S S0:St}{L:dG}{K:AV->St->Prop}{x y i a:Operand}{v:AV}{k:IntKind}{m q:Int}{T T' e:TypeId}
theorem Gw{T':TypeId}{o:Option Int}(hT:td P T = .int .i64)(QT:di P T=true)(hz:QM P T = .int .i64 0)(hx:ev t x=bd T o)(h:K (.tuple [.int .i64 (o.getD 0),.bool o.isSome]) S):vo P rg d (.typeAssert x T' T true) t S K:=by
 rw[WN,hx];refine⟨by rw[hT];trivial,?_⟩;cases o with
 | none=>exact⟨rfl,QT,by rw[hz];exact h⟩
 | some n=>exact⟨λ_=>h,λQI=>absurd rfl QI⟩
theorem aV{c:Nat}(hT:td P T = .slice e)(hs:sz P e=kk)(h0:0<kk)(hx:ev t x = .sl kk r k' g 0 c)(hi:ev t i = .int k m)(hb:0<=m/\m<c)(h:K (.ptr r k' g m.toNat 0) S):vo P rg d (.indexAddr T x i) t S K:=Is hT hs h0 hx hi hb (by rw[Nat.zero_add];exact h)
theorem gt{k:Nat}(hS:S r k=some (.arr kk [u],g))(hs:sz P T=1)(ha:bF P T=false)(hx:ev t x = .ptr r k g 0 off)(hl:ble (off+1) kk=true)(hv:u.cells.getD off .Qz=v)(h:K v S):vo P rg d (.load T x) t S K:=xk (hS) hs om (.inr ⟨ha,rfl⟩) hx Qy (le_of_ble_eq_true hl) (by rw[ha];exact hv) h
theorem br{k:Nat}(hS:S r k=some (.arr kk [u],g))(hs:sz P T=Ti)(h0:0<Ti)(ha:bF P T=true)(hx:ev t x = .ptr r k g 0 off)(hl:ble (off+Ti) kk=true)(hv:AV.agg ((u.cells.drop off).take Ti)=v)(h:K v S):vo P rg d (.load T x) t S K:=xk (hS) hs h0 (.inl ha) hx Qy (le_of_ble_eq_true hl) (by rw[ha];exact hv) h
theorem rq[Inhabited α]{k:Nat}(hS:S r k=some (.arr kk (l.map enc),g))(hs:sz P T=1)(ha:bF P T=false)(hx:ev t x = .ptr r k g m.toNat off)(hi:m.toNat<l.length)(hl:ble (off+1) kk=true)(hv:(enc (P9 l m)).cells.getD off .Qz=v)(h:K v S):vo P rg d (.load T x) t S K:=xk (hS) hs om (.inr ⟨ha,rfl⟩) hx (by simpa using hi) (le_of_ble_eq_true hl) (by rw[ha,yK hi];exact hv) h
theorem CV[Inhabited α]{k:Nat}(hS:S r k=some (.arr kk (l.map enc),g))(hs:sz P T=Ti)(h0:0<Ti)(ha:bF P T=true)(hx:ev t x = .ptr r k g m.toNat off)(hi:m.toNat<l.length)(hl:ble (off+Ti) kk=true)(hv:AV.agg (((enc (P9 l m)).cells.drop off).take Ti)=v)(h:K v S):vo P rg d (.load T x) t S K:=xk (hS) hs h0 (.inl ha) hx (by simpa using hi) (le_of_ble_eq_true hl) (by rw[ha,yK hi];exact hv) h
theorem cx{fs:List (Nat×TypeId)}{szs:List Nat}{ps:List (Nat×AV)}(hT:td P T = .struct fs)(hz:QM P T=z)(QT:(di P T&&fR (QM P T)&&fs.all (λf=>decide (0<sz P f.2)))=true)(agG:fs.map (λf=>sz P f.2)=szs)(hsT:sz P T=n)(hp:parts.map (λp=>(p.1,ev t p.2))=ps)(hc:(ps.all λp=>p.2.Q_&&(beq p.2.cells.length (szs.getD p.1 0)&&(ble (p.1+1) fs.length&&ble ((fs.getD p.1 (0,0)).1+p.2.cells.length) n)))=true)(hv:ps.foldl (λv p=>TN v (fs.getD p.1 (0,0)).1 p.2) z=v)(h:K v S):vo P rg d (.build T parts.toArray) t S K:=by
 rw[VF,nM,hT];refine⟨QT,?_,?_⟩
 ·rw[hp];rw[all_eq_true]at hc ⊢;intro p hm;have:=hc p hm;simp only[and_eq_true,Nat.ble_eq]at this;obtain⟨a1,a2,a3,a4⟩:=this;replace a2:=Nat.eq_of_beq_eq_true a2;have e:sz P (fs.getD p.1 (0,0)).2=szs.getD p.1 0:=by rw[<-agG,List.getD_eq_getElem?_getD,List.getD_eq_getElem?_getD];have:p.1<fs.length:=a3;simp[this]
  simp only[and_eq_true,beq_iff_eq,decide_eq_true_eq];exact⟨⟨⟨a1,by rw[e];exact a2⟩,a3⟩,by rw[hsT];exact a4⟩
 ·rw[hp,hz,hv];exact h
abbrev cd:=List (Nat×Nat×QW×Nat)
def Qk(S:St):cd->St
 | []=>S
 | (r,k,o,g)::X=>St.set (Qk S X) r k o g
def DK:List (Nat×Nat)->Prop
 | []=>True
 | p::X=>(∀q∈X,¬(q.1=p.1/\q.2=p.2))/\DK X
def DX(X:cd):Prop:=DK (X.map λp=>(p.1,p.2.1))
theorem DX.ne{r' k' g' r k g:Nat}{o' o:QW}{X:cd}(h:DX ((r',k',o',g')::X))(hm:(r,k,o,g)∈X):¬(r=r'/\k=k'):=h.1 (r,k) (List.mem_map.2 ⟨_,hm,rfl⟩)
theorem DV{S:St}{r k g:Nat}{o:QW}:∀ {X:cd} (i:Nat),DX X->X[i]? = some (r,k,o,g)->Qk S X r k=some (o,g)
 | [],i,_,h=>by simp at h
 | p::X,0,_,h=>by simp at h;subst h;simp[Qk,St.set]
 | (r',k',o',g')::X,i+1,hd,h=>by have hm:(r,k,o,g)∈X:=List.mem_of_getElem? (by simpa using h);have:=hd.ne hm;simp only[Qk,St.set];rw[if_neg this];exact DV i hd.2 (by simpa using h)
theorem Fc{S:St}{r k g g':Nat}{o o':QW}:∀ {X:cd} (i:Nat),DX X->X[i]? = some (r,k,o,g)->(Qk S X).set r k o' g'=Qk S (X.set i (r,k,o',g'))
 | [],i,_,h=>by simp at h
 | p::X,0,_,h=>by simp at h;subst h;simp only[Qk,List.set_cons_zero];funext a b;simp only[St.set];split<;>rfl
 | (r',k',o2,g2)::X,i+1,hd,h=>by
  have hm:(r,k,o,g)∈X:=List.mem_of_getElem? (by simpa using h);have QI:=hd.ne hm;simp only[Qk,List.set_cons_succ];rw[<-Fc i hd.2 (by simpa using h)];funext a b;simp only[St.set];by_cases h1:a=r/\b=k;·obtain⟨rfl,rfl⟩:=h1;rw[if_pos ⟨rfl,rfl⟩,if_neg QI,if_pos ⟨rfl,rfl⟩]
  ·simp only[if_neg h1]
theorem atL{S0:St}{rg k:Nat}{l:dG}(h:SK l k=some (o,g)):Qr S0 rg l rg k=some (o,g):=by rw[jD];exact h
theorem bm{S0:St}{rg k:Nat}{l:dG}:(Qr S0 rg l).set rg k o g=Qr S0 rg ((k,o,g)::l):=jt
theorem P_{S:St}{rg r k g:Nat}{X:cd}{l:dG}{o:QW}(QI:r≠rg)(hd:DX X)(i:Nat)(h:X[i]? = some (r,k,o,g)):Qr (Qk S X) rg l r k=some (o,g):=by rw[qY QI];exact DV i hd h
theorem aI{S:St}{rg r k g g':Nat}{X X':cd}{l:dG}{o o':QW}(QI:r≠rg)(hd:DX X)(i:Nat)(h:X[i]? = some (r,k,o,g))(hX:X.set i (r,k,o',g')=X'):(Qr (Qk S X) rg l).set r k o' g'=Qr (Qk S X') rg l:=by
 subst hX;rw[<-Fc i hd h];funext a b;simp only[St.set,Qr];by_cases h1:a=rg;·subst h1;have:¬(a=r/\b=k):=λh=>QI h.1.symm;simp[this]
 ·simp[h1]
theorem ae{S:St}{rg r k g:Nat}{X:cd}{o:QW}(hd:DX X)(SY:∀k,Qk S X rg k=none)(i:Nat)(h:X[i]? = some (r,k,o,g)):r≠rg:=by rintro rfl;have:=DV (S:=S) i hd h;rw[SY]at this;cases this
theorem aJ{S:St}{rg:Nat}:∀ {X X':cd},X.map (λp=>(p.1,p.2.1))=X'.map (λp=>(p.1,p.2.1))->(∀k,Qk S X rg k=none)->∀k,Qk S X' rg k=none
 | [],[],_,h=>h
 | [],_::_,e,_=>by simp at e
 | _::_,[],e,_=>by simp at e
 | (r,k,o,g)::X,(r',k',o',g')::X',e,h=>λj=>by
  simp only[List.map_cons,List.cons.injEq,Prod.mk.injEq]at e;obtain⟨⟨rfl,rfl⟩,e⟩:=e;have h1:=h j;simp only[Qk,St.set]at h1 ⊢;by_cases hc:rg=r/\j=k;·rw[if_pos hc]at h1;cases h1
  ·rw[if_neg hc]at h1 ⊢;refine aJ e (λj=>?_) j;have h2:=h j;simp only[Qk,St.set]at h2;by_cases Sw:rg=r/\j=k;·rw[if_pos Sw]at h2;cases h2
   ·rw[if_neg Sw]at h2;exact h2
theorem bh{P:Program}{f:FuncId}{as:List AV}{S:St}(e:S'=S)(h:Ctr P f as S' R):Ctr P f as S R:=e▸h
theorem Ao{S:St}{k:Nat}(h:S r k=some (o,g)):Qk S [(r,k,o,g)]=S:=by
 funext a b;simp only[Qk,St.set];split;·rename_i hc;obtain⟨rfl,rfl⟩:=hc;exact h.symm
 ·rfl
theorem Rel.Y8{S:St}{rg k0:Nat}{l:dG}(h:Rel G (Qr S rg l) w)(SY:∀k,S rg k=none)(hS:SK l k0=some (o,g))(q k:Nat) :∃g' G',G.le G'/\Rel G' (S.set q k o g') w/\∀kk off n x,VR G (.sl kk rg k0 g off n) x->VR G' (.sl kk q k g' off n) x:=by
 obtain⟨g',hg'⟩:=h.fresh q k;obtain⟨L,hL,Q',Vl⟩:=h.obj rg k0 o g (by rw[jD];exact hS);let G':Qh:={ G with loc:=λr2 k2 g2=>if r2=q/\k2=k/\g2=g' then some L else G.loc r2 k2 g2 };have hle:G.le G':=by
  refine⟨⟨rfl,λ_ h=>h,rfl⟩,λ_ _ _ e=>e,λr2 k2 g2 L2 e=>?_⟩;show(if r2=q/\k2=k/\g2=g' then some L else G.loc r2 k2 g2)=some L2;split;·rename_i hc;obtain⟨rfl,rfl,rfl⟩:=hc;rw[hg']at e;cases e
  ·exact e
 have Vo:G'.loc q k g'=some L:=by show(if q=q/\k=k/\g'=g' then some L else _)=_;rw[if_pos ⟨rfl,rfl,rfl⟩]
 have hold:∀ {r2 k2 o2 g2},S r2 k2=some (o2,g2)->Qr S rg l r2 k2=some (o2,g2):=λ{r2 k2 o2 g2} e=>by
  have QI:r2≠rg:=by rintro rfl;rw[SY]at e;cases e
  rw[qY QI];exact e
 refine⟨g',G',hle,⟨h.below,h.RM,?_,?_,?_,?_⟩,?_⟩
 ·intro r2 k2 o2 g2 e;simp only[St.set]at e;split at e;·rename_i hc;obtain⟨rfl,rfl⟩:=hc;cases e;exact⟨L,Vo,Q'.keep hle (λ_=>rfl),Vl⟩
  ·obtain⟨L2,q1,q2,q3⟩:=h.obj _ _ _ _ (hold e);exact⟨L2,hle.loc _ _ _ _ q1,q2.keep hle (λ_=>rfl),q3⟩
 ·intro r1 k1 o1 g1 r2 k2 o2 g2 L1 L2 e1 e2 l1 l2 c1 c2 QI;have src:∀ {r2 k2 o2 g2 L2},(S.set q k o g') r2 k2=some (o2,g2)->G'.loc r2 k2 g2=some L2->(r2=q/\k2=k/\L2=L)\/(¬(r2=q/\k2=k)/\S r2 k2=some (o2,g2)/\∃L3,G.loc r2 k2 g2=some L3/\L2=L3):=by
   intro r2 k2 o2 g2 L2 e l2;simp only[St.set]at e;split at e;·rename_i hc;obtain⟨rfl,rfl⟩:=hc;cases e;rw[Vo]at l2;exact .inl ⟨rfl,rfl,(Option.some.inj l2).symm⟩
   ·rename_i hc;obtain⟨L3,q1,_⟩:=h.obj _ _ _ _ (hold e);have:=hle.loc _ _ _ _ q1;rw[this]at l2;exact .inr ⟨hc,e,L3,q1,(Option.some.inj l2).symm⟩
  rcases src e1 l1 with⟨rfl,rfl,rfl⟩|⟨W1,f1,L3,m1,rfl⟩
  ·rcases src e2 l2 with⟨rfl,rfl,rfl⟩|⟨TL,f2,L4,m2,rfl⟩;·exact absurd ⟨rfl,rfl⟩ QI
   ·have Vk:r2≠rg:=by rintro rfl;rw[SY]at f2;cases f2
    exact h.inj rg k0 o g r2 k2 o2 g2 _ _ (by rw[jD];exact hS) (hold f2) hL m2 c1 c2 (λhc=>Vk hc.1.symm)
  ·rcases src e2 l2 with⟨rfl,rfl,rfl⟩|⟨TL,f2,L4,m2,rfl⟩
   ·have TH:r1≠rg:=by rintro rfl;rw[SY]at f1;cases f1
    exact h.inj r1 k1 o1 g1 rg k0 o g _ _ (hold f1) (by rw[jD];exact hS) m1 hL c1 c2 (λhc=>TH hc.1)
   ·exact h.inj _ _ _ _ _ _ _ _ _ _ (hold f1) (hold f2) m1 m2 c1 c2 QI
 ·obtain⟨N,hN⟩:=h.fin;refine⟨max N (max (q+1) (rg+1)),λr2 hr k2=>?_⟩;have QI:r2≠rg:=om;have h1:=hN r2 om k2;rw[qY QI]at h1;simp only[St.set];rw[if_neg (λhc=>om)]
  exact h1
 ·intro r2 k2;obtain⟨N,hN⟩:=h.U0 r2 k2;refine⟨max N (g'+1),λg2 hg2=>?_⟩;show(if r2=q/\k2=k/\g2=g' then some L else G.loc r2 k2 g2)=none;rw[if_neg (λhc=>om)]
  exact hN g2 om
 ·intro kk off n x hv;cases hv with
  | sl _ _ _ _ _ _ a L' h1 h2 h3 h4 h5=>
   rw[hL]at h1;cases h1;exact .sl (G:=G') kk q k g' off n a _ Vo h2 h3 h4 h5
theorem sd{S:St}{rg k0:Nat}{l:dG}(q k:Nat)(SY:∀k,S rg k=none)(hS:SK l k0=some (o,g))(h:∀g',R (.sl kk q k g' 0 n) (S.set q k o g')):dz R (.sl kk rg k0 g 0 n) (Qr S rg l):=λG w x hr hv=>by obtain⟨g',G',a1,a2,a3⟩:=hr.Y8 SY hS q k;exact⟨_,_,G',h g',a1,a2,a3 _ _ _ _ hv⟩
theorem qn{P:Program}{rg:Nat}{t:Env}{S:St}{K:AV->St->Prop}{x i:Operand}{m:Int}{T e:TypeId}{c:Nat}(hT:td P T = .slice e)(hs:sz P e=kk)(h0:0<kk)(hx:ev t x = .sl kk r k' g off c)(hi:ev t i = .int kd m)(hb:0<=m/\m<c)(h:K (.ptr r k' g ((off:Int)+m).toNat 0) S):vo P rg d (.indexAddr T x i) t S K:=Is hT hs h0 hx hi hb (by
  have:off+m.toNat=((off:Int)+m).toNat:=om;rw[this];exact h)
theorem xO{P:Program}{T e:TypeId}{a:Option Addr}{c:Nat}(hu:P.underlying T=some (.slice e))(d:Nat):(Op.equalIn (d+1) T (.slice a n c) (.slice none 0 0)).run P w = .ok a.isNone w:=by cases a<;>simp only[Op.equalIn,Sem.run_bind,run_underlying hu,Result.andThen_ok,Sem.run_pure]<;>rfl
theorem Bx{P:Program}{T e:TypeId}{a:Option Addr}{c:Nat}(hu:P.underlying T=some (.slice e)):(Op.equal T (.slice a n c) (.slice none 0 0)).run P w = .ok a.isNone w:=by unfold Op.equal Op.maxDepth;exact xO hu 9999
theorem Wl.ZA{P:Program}{K:Env->St->Prop}{o:Oper}{t:Env}{S:St}(hv:UR P n o t S (λv S'=>Wl P n ops rest K (dh t o.dst v) S'))(hg:o.guard=none):Wl P n ops (o::rest) K t S:=by intro QT ro G a w Q hr ht hQ;have hdo:=QT o Qy;have aaT:∀o∈rest,∀d,o.dst=some d->d<n:=λo ho=>QT o (by simp[ho]);unfold wpListIn;rw[if_pos (by simp[Region.wanted,hg])];refine(hv ro G a w _ Q hr ht (λv av S' G' w' hk hle SQ hav=>?_));exact hk aaT ro G' _ w' Q SQ ((ht.mono hle).put hdo hav) (λa w hl=>hQ a w (Gg.QP hl hle))
theorem Wl.Sf{P:Program}{K:Env->St->Prop}{t:Env}{S:St}{T T' e:TypeId}{x y:Operand}(hT:td P T = .slice e)(hx:ev t x=eL enc l)(hy:ev t y = .nil)(h:∀b:Bool,(b=true->l=[])->Wl P n ops rest K (dh t d (.bool b)) S):Wl P n ops (⟨d,.binOp .eql T x y T',ty,pos,after,none⟩::rest) K t S:=by
 refine Wl.ZA (QOp.sop ?_) rfl;intro G ρ w hr he;have h1:=he x;have h2:=he y;rw[hx]at h1;rw[hy]at h2;generalize hvx:ρ x=vx at h1;generalize hvy:ρ y=vy at h2;cases h2;cases h1 with
 | list _ a m cap c z k u q1 q2 q3 q4 q5 q6 q7=>
 refine⟨.bool a.isNone,.bool a.isNone,?_,h _ (λhn=>?_),.bool _⟩
 ·have hg:(eqGuard .eql T x y (.slice a m cap) (.slice none 0 0)).run P w = .ok () w:=rfl;have hb:(do eqGuard .eql T x y (.slice a m cap) (.slice none 0 0);binOp .eql T (.slice a m cap) (.slice none 0 0):Sem Value).run P w = .ok (.bool a.isNone) w:=by simp only[Sem.run_bind,hg,Result.andThen_ok];exact iQ (Bx (P:=P) (w:=w) (T:=T) (a:=a) (n:=m) (c:=cap) (iw hT))
  have hl:∀(s:Sem Value) (v:Value),s.run P w = .ok v w->((do pure (.value (←s))):Sem Next).run P w = .ok (.value v) w:=by intro s v h1;simp[h1]
  show((do pure (.value (←(do eqGuard .eql T x y (ρ x) (ρ y);binOp .eql T (ρ x) (ρ y))))):Sem Next).run P w=_;rw[hvx,hvy];exact hl _ _ hb
 ·cases hl:l with
  | nil=>rfl
  | cons b l'=>
   have:0<m:=by rw[q1,hl];simp
   rw[q4 this]at hn;cases hn
theorem CW{P:Program}{rg:Nat}{t:Env}{S:St}{K:AV->St->Prop}{x i:Operand}{m:Int}{T:TypeId}{s:ByteArray}(hT:td P T = .str)(hx:ev t x = .str s)(hi:ev t i = .int kd m)(hb:0<=m/\m<s.size)(h:K (.int .u8 (pq s m.toNat)) S):vo P rg d (.index T x i) t S K:=by rw[Xv,hx,hi,oZ,hT];exact⟨hb,h⟩
theorem dx1{k:Nat}:DX [(r,k,o,g)]:=⟨by simp,trivial⟩
def VWC(a b:AV):Prop:=a.cells.length=b.cells.length/\∀j (h1:j<a.cells.length) (h2:j<b.cells.length),VW a.cells[j] b.cells[j]
theorem SG.US{a b:AV}(h:SG a.cells b.cells):VWC a b:=⟨h.len.symm,λj h1 h2=>h.at j h1 h2⟩
def OW:QW->QW->Prop
 | .arr kk es,.arr Um Tq=>Um=kk/\Tq.length=es.length/\∀i (h1:i<es.length) (h2:i<Tq.length),VWC es[i] Tq[i]
 | _,_=>False
theorem Rel.ow{S:St}(h:Rel G S w){k:Nat}(hS:S r k=some (o,g))(ho:OW o o'):Rel G (S.set r k o' g) w:=by
 obtain⟨L,hL,Q',Vl⟩:=h.obj _ _ _ _ hS;have X8:jU G w L o':=by
  cases o with
  | mp=>exact ho.elim
  | lp=>exact ho.elim
  | arr kk es=>
  cases o' with
  | mp=>exact ho.elim
  | lp=>exact ho.elim
  | arr Um Tq=>
  obtain⟨rfl,hl,hv⟩:=ho;obtain⟨h1,h2,h3,Zo,h4,h5⟩:=Q';refine⟨h1,h2,om,Zo,λi hi=>?_,λhc=>?_⟩
  ·rw[<-(hv i om hi).1];exact h4 i om
  ·obtain⟨row,a1,a2,a3⟩:=h5 hc;refine⟨row,a1,a2,λi hi j hj=>?_⟩;have Zd:=hv i om hi;obtain⟨z,z1,z2⟩:=a3 i om j (by rw[Zd.1];exact hj);exact⟨z,z1,Zd.2 j _ hj G _ z2⟩
 refine⟨h.below,h.RM,λr' k' o2 g2 e=>?_,?_,?_,h.U0⟩
 ·simp only[St.set]at e;split at e;·rename_i hc;obtain⟨rfl,rfl⟩:=hc;cases e;exact⟨L,hL,X8,Vl⟩
  ·exact h.obj _ _ _ _ e
 ·intro r1 k1 o1 g1 r2 k2 o2 g2 L1 L2 e1 e2 l1 l2 c1 c2 QI;simp only[St.set]at e1 e2;have fix:∀ {r' k' o' g'},(if r'=r/\k'=k then some (o',g)else S r' k')=some (o',g')->True:=λ_=>trivial
  split at e1
  ·rename_i UO;obtain⟨rfl,rfl⟩:=UO;cases e1;split at e2;·rename_i Sw;exact absurd ⟨Sw.1.symm,Sw.2.symm⟩ QI
   ·exact h.inj _ _ _ _ _ _ _ _ _ _ hS e2 l1 l2 c1 c2 QI
  ·split at e2;·rename_i Sw;obtain⟨rfl,rfl⟩:=Sw;cases e2;exact h.inj _ _ _ _ _ _ _ _ _ _ e1 hS l1 l2 c1 c2 QI
   ·exact h.inj _ _ _ _ _ _ _ _ _ _ e1 e2 l1 l2 c1 c2 QI
 ·obtain⟨N,hN⟩:=h.fin;refine⟨N,λr' hr k'=>?_⟩;simp only[St.set];split;·rename_i hc;obtain⟨rfl,rfl⟩:=hc;rw[hN _ hr]at hS;cases hS
  ·exact hN r' hr k'
theorem Rm.ow{t:Env}{S0:St}{rg k g:Nat}{L:dG}{o o':QW}(hS:SK L k=some (o,g))(ho:OW o o'):Rm t (Qr S0 rg L) t (Qr S0 rg ((k,o',g)::L)):=λn G a w hr ht=>⟨G,Qh.le.refl G,by rw[<-jt];exact hr.ow (by rw[jD];exact hS) ho,ht⟩
theorem OW.one{a b:AV}(h:VWC a b):OW (.arr kk [a]) (.arr kk [b]):=⟨rfl,rfl,λi h1 h2=>by
 have:i=0:=by simpa using h1
 subst this;exact h⟩
theorem Fy{d:Nat}(hz:QM P T=z)(QT:di P T=true)(hk:z.cells.length=kk)(h:∀g,K (.ptr rg d g 0 0) (Qr S0 rg ((d,.arr kk [z],g)::L))):vo P rg (some d) (.alloc T) t (Qr S0 rg L) K:=by
 rw[Xx];refine⟨QT,λg=>?_⟩
 rw[hz,hk,getD_some,jt];exact h g
theorem LU{d:Nat}(hx:ev t x=v)(hs:v.Q_=true)(hk:v.cells.length=kk)(h0:0<kk)(h:∀g,K (.ptr rg d g 0 0) (Qr S0 rg ((d,.arr kk [v],g)::L))):vo P rg (some d) (.box T x) t (Qr S0 rg L) K:=by
 rw[aaq,hx];refine⟨⟨hs,om⟩,λg=>?_⟩
 rw[hk,getD_some,jt];exact h g
theorem tT{k:Nat}{w:AV}(hS:S r k=some (.arr kk [u],g))(hs:sz P T=Ti)(h0:0<Ti)(ha:ev t a = .ptr r k g 0 off)(hx:ev t x=w)(hl:beq w.cells.length Ti=true)(hc:(ble (off+Ti) kk&&fo w.cells)=true)(hv:TN u off w=v)(Rr:S.set r k (.arr kk [v]) g=S')(h:K .Qz S'):vo P rg d (.store T a x) t S K:=by
 rw[VC,ha,hx,lj];simp only[hS];simp only[and_eq_true,Nat.ble_eq]at hc;have UY:=Nat.eq_of_beq_eq_true hl;refine⟨⟨trivial,by simp,om,om,om,hc.2⟩,?_⟩;have:([u].set 0 (TN ([u].getD 0 .Qz) off w))=[v]:=by simp[<-hv]
 rw[this,Rr];exact h
theorem J0{w:AV}(hu:u.cells.length=kk)(hw:w.cells.length=kk)(ahK:∃l,w = .agg l):TN u 0 w=w:=by
 obtain⟨l,rfl⟩:=ahK;cases u with
 | agg m=>simp[TN,AV.cells]at *;omega
 | _=>rfl
theorem CU{k:Nat}(hS:S r k=some (.arr kk (l.map enc),g))(hs:sz P T=kk)(h0:0<kk)(hk:∀z,(enc z).cells.length=kk)(ha:ev t a = .ptr r k g m.toNat 0)(hx:ev t x=enc x')(hi:m.toNat<l.length)(hc:fo (enc x').cells=true)(Uf:∀z,TN (enc z) 0 (enc x')=enc x')(Rr:S.set r k (.arr kk ((Qt l m x').map enc)) g=S')(h:K .Qz S'):vo P rg d (.store T a x) t S K:=by
 rw[VC,ha,hx,lj];simp only[hS];refine⟨⟨trivial,by simpa using hi,om,by rw[hk,hs],om,hc⟩,?_⟩;have e:(l.map enc).getD m.toNat .Qz=enc (l[m.toNat]'hi):=by rw[List.getD_eq_getElem?_getD];simp[hi]
 rw[e,Uf];have:(l.map enc).set m.toNat (enc x')=(Qt l m x').map enc:=by simp[Qt,List.map_set]
 rw[this,Rr];exact h
theorem Gu{k:Nat}(hS:S r k=some (.arr kk (l.map enc),g))(hs:sz P T=kk)(h0:0<kk)(hk:∀z,(enc z).cells.length=kk)(ha:ev t a = .ptr r k g m.toNat 0)(hx:ev t x=enc x')(hi:m.toNat<l.length)(hc:fo (enc x').cells=true)(_hst:fR (enc x')=false)(Rr:S.set r k (.arr kk ((Qt l m x').map enc)) g=S')(h:K .Qz S')(hz:∀z,fR (enc z)=false:=by intro _;rfl):vo P rg d (.store T a x) t S K:=CU hS hs h0 hk ha hx hi hc (λz=>by
  have:=hz z;generalize enc z=u at this;cases u<;>first|rfl|cases this) Rr h
theorem ig{k:Nat}(hS:S r k=some (.arr kk (l.map enc),g))(hs:sz P T=kk)(h0:0<kk)(hk:∀z,(enc z).cells.length=kk)(ha:ev t a = .ptr r k g m.toNat 0)(hx:ev t x=enc x')(hi:m.toNat<l.length)(hc:fo (enc x').cells=true)(Uf:fR (enc x')=true)(Rr:S.set r k (.arr kk ((Qt l m x').map enc)) g=S')(h:K .Qz S'):vo P rg d (.store T a x) t S K:=CU hS hs h0 hk ha hx hi hc (λz=>J0 (hk z) (hk x') (by
  generalize enc x'=u at Uf;cases u<;>first|exact⟨_,rfl⟩|cases Uf)) Rr h
theorem rU{d b:Nat}{l:Operand}{n m:Int}(hT:td P T = .slice e)(hb:UQ P e=b)(QT:di P e=true)(hz:QM P e=z)(hk:z.cells.length=kk)(hl:ev t l = .int .i64 n)(hc:ev t c = .int .i64 m)(V':jo b n m)(h:∀g,K (.sl kk rg d g 0 n.toNat) (Qr S0 rg ((d,.arr kk (bA n z),g)::L))):vo P rg (some d) (.makeSlice T l c) t (Qr S0 rg L) K:=by
 rw[YU,hl,hc,vP,hT];refine⟨⟨V'.1,V'.2.1,by rw[hb];exact V'.2.2.1,V'.2.2.2⟩,QT,λg=>?_⟩
 have:=h g;rw[hz,hk,getD_some,jt];simpa[bA]using this
theorem fk{d b:Nat}{l:Operand}{n m:Int}(hT:td P T = .slice e)(hb:UQ P e=b)(QT:di P e=true)(hz:QM P e=enc z')(hk:(enc z').cells.length=kk)(hl:ev t l = .int .i64 n)(hc:ev t c = .int .i64 m)(V':jo b n m)(h:∀g,K (.sl kk rg d g 0 n.toNat) (Qr S0 rg ((d,.arr kk ((bA n z').map enc),g)::L))):vo P rg (some d) (.makeSlice T l c) t (Qr S0 rg L) K:=rU hT hb QT hz hk hl hc V' (λg=>by
  have:=h g;have e2:(bA n z').map enc=bA n (enc z'):=by simp[bA]
  rw[e2]at this;exact this)
theorem OW.rep{n:Int}(h:VWC z (enc z')):OW (.arr kk (bA n z)) (.arr kk ((bA n z').map enc)):=⟨rfl,by simp[bA],λi h1 h2=>by
 simp only[bA,List.getElem_replicate,List.getElem_map];exact h⟩
theorem aT{d len:Nat}(hT:td P T = .slice e)(QT:di P e=true)(hz:QM P e=z)(Zj:parts.map (λp=>ev t p.2)=es)(hk:z.cells.length=kk)(X_:parts.map (·.1)=List.range len)(hlen:es.length=len)(hsm:ble (len*kk) 16777216=true)(hc:(es.all λx=>x.Q_&&beq x.cells.length kk)=true)(_hl':len=len)(h:∀g,K (.sl kk rg d g 0 len) (Qr S0 rg ((d,.arr kk es,g)::L))):vo P rg (some d) (.buildSlice T len parts.toArray) t (Qr S0 rg L) K:=by
 rw[UT,fp,hT];refine⟨⟨by rw[X_];simp,by rw[Zj];exact hlen,QT,by rw[hz,hk];exact le_of_ble_eq_true hsm,?_⟩,λg=>?_⟩
 ·rw[Zj,hz,hk];rw[all_eq_true]at hc ⊢;intro x hx;have:=hc x hx;simpa using this
 ·rw[Zj,hz,hk,getD_some,jt];exact h g
theorem n_{z:List α}{lo hi:Option Operand}{l h:Int}(hT:td P T = .slice e)(hs:sz P e=kk)(h0:0<kk)(hk:∀z,(enc z).cells.length=kk)(hx:ev t x=eL enc z)(Sr:V2 (lo.map (ev t)) 0=some l)(Sx:V2 (hi.map (ev t)) z.length=some h)(hb:0<=l/\l<=h/\h<=z.length)(hK:K (eL enc (fV z l h)) S):vo P rg d (.slice T x lo hi none) t S K:=by
 rw[VE,hx];show lk P T (eL enc z) _ _ none _;have ahn:V2 (hi.map (ev t)) (z.map enc).length=some h:=by rw[length_map];exact Sx
 unfold lk;rw[hT];simp only[Sr,ahn];refine⟨⟨hb.1,hb.2.1,by simpa using hb.2.2⟩,⟨om,?_⟩,?_⟩;·rw[all_eq_true];intro u hu;obtain⟨w,_,rfl⟩:=List.mem_map.1 hu;simp[hk,hs]
 ·rw[<-List.map_drop,<-List.map_take];exact hK
theorem rn{lo hi:Option Operand}{l h:Int}(hT:td P T = .slice e)(hs:sz P e=kk)(h0:0<kk)(hx:ev t x = .sl kk r k' g off n)(Sr:V2 (lo.map (ev t)) 0=some l)(Sx:V2 (hi.map (ev t)) n=some h)(hb:0<=l/\l<=h/\h<=n)(hK:K (.sl kk r k' g (off+l.toNat) (h.toNat-l.toNat)) S):vo P rg d (.slice T x lo hi none) t S K:=by rw[VE,hx];show lk P T (.sl kk r k' g off n) _ _ none _;unfold lk;rw[hT];simp only[Sr,Sx];exact⟨hb,⟨h0,hs.symm⟩,hK⟩
theorem Hs{k:Nat}(hS:S r k=some (.arr kk es,g))(hn:n=es.length):qL S (.sl kk r k g 0 n)=some es:=by simp only[qL,hS];subst hn;simp
theorem AX(hk:∀z,(enc z).cells.length=kk)(Si:∀z,fo (enc z).cells=true):((l.map enc).all λx=>fo x.cells&&(x.cells.length==kk))=true:=by rw[all_eq_true];intro u hu;obtain⟨w,_,rfl⟩:=List.mem_map.1 hu;simp[hk,Si]
theorem Ix{d b:Nat}{xs:List α}(hT:td P T = .slice e)(hb:UQ P e=b)(QT:di P e=true)(hz:QM P e=z)(hx:qL (Qr S0 rg L) (ev t y)=some (xs.map enc))(hk:z.cells.length=kk)(Zb:ev t x = .nil)(Si:∀z,fo (enc z).cells=true)(SZ:∀z,(enc z).cells.length=kk)(V':xs.length*b<=140737488355328)(V_:ble 1 b=true)(h:∀g,K (.sl kk rg d g 0 xs.length) (Qr S0 rg ((d,.arr kk (xs.map enc),g)::L))) :vo P rg (some d) (.call { callee:=.builtin .append,args:=#[x,y],argTypes:=#[T,T] }) t (Qr S0 rg L) K:=by
 rw[U2,Zb,fi,hT];simp only[hx];have h1:=le_of_ble_eq_true V_;have h2:xs.length*1<=xs.length*b:=Nat.mul_le_mul_left _ h1;refine⟨⟨QT,?_⟩,by rw[hb];simpa using V',by simp;omega,λg=>?_⟩
 ·rw[hz,hk];exact AX SZ Si
 ·rw[hz,hk,getD_some,jt];have:=h g;simpa using this
theorem dD{k b:Nat}{S':Nat->St}{es xs:List α}(hT:td P T = .slice e)(hb:UQ P e=b)(QT:di P e=true)(hz:QM P e=z)(hS:S r k=some (.arr kk (es.map enc),g))(hn:n=es.length)(hx:qL S (ev t y)=some (xs.map enc))(hk:z.cells.length=kk)(Zb:ev t x = .sl kk r k g 0 n)(Si:∀z,fo (enc z).cells=true)(SZ:∀z,(enc z).cells.length=kk)(V':(es++xs).length*b<=140737488355328)(V_:ble 1 b=true)(Rr:∀g,S.set r k (.arr kk ((es++xs).map enc)) g=S' g)(h:∀g,K (.sl kk r k g 0 (es++xs).length) (S' g)) :vo P rg d (.call { callee:=.builtin .append,args:=#[x,y],argTypes:=#[T,T] }) t S K:=by
 rw[U2,Zb,fi,hT];simp only[hx,hS];have h1:=le_of_ble_eq_true V_;have h2:(es++xs).length*1<=(es++xs).length*b:=Nat.mul_le_mul_left _ h1;have hlen:(es++xs).length=es.length+xs.length:=List.length_append;refine⟨⟨QT,?_⟩,⟨trivial,trivial,trivial,by rw[hz,hk],by simpa using hn⟩,⟨?_,?_⟩,λg=>?_⟩
 ·rw[hz,hk];exact AX SZ Si
 ·rw[hb,length_map,length_map,<-hlen];exact V'
 ·rw[length_map,length_map,<-hlen];omega
 ·have:=h g;rw[<-Rr,List.map_append,hlen]at this;simpa using this
theorem Kv(hc:ev t c = .bool b)(hb:b=true)(hv:ev t x=v)(h:K v S):vo P rg d (.pick c x y) t S K:=Ip hc (by rw[hb];exact hv) h
theorem Kw(hc:ev t c = .bool b)(hb:b=false)(hv:ev t y=v)(h:K v S):vo P rg d (.pick c x y) t S K:=Ip hc (by rw[hb];exact hv) h
theorem ah{k:Nat}(hv:t k=v)(h:nK P rs t S (λvs=>KL (v::vs))):nK P (.tmp k::rs) t S KL:=by show nK P rs t S (λvs=>KL (t k::vs));rw[hv];exact h
theorem am(h:KL []):nK P [] t S KL:=h
theorem bn{a k:Nat}(hS:S r k=some (.arr kk [u],g))(hs:sz P T=Ti)(h0:0<Ti)(ha:bF P T=true)(hx:t a = .ptr r k g 0 0)(hl:ble Ti kk=true)(hv:AV.agg ((u.cells.drop 0).take Ti)=v)(h:nK P rs t S (λvs=>KL (v::vs))):nK P (.cell a T::rs) t S KL:=by have:=br (P:=P) (rg:=0) (d:=none) (t:=t) (x:=.tmp a) (K:=λv S=>nK P rs t S (λvs=>KL (v::vs))) hS hs h0 ha (off:=0) hx (by rw[Nat.zero_add];exact hl) hv h;rw[Tu]at this;have e:ev t (.tmp a)=t a:=rfl;rw[e]at this;show jK P T (t a) S (λv=>nK P rs t S (λvs=>KL (v::vs)));exact this
theorem pD{a k:Nat}(hS:S r k=some (.arr kk [u],g))(hs:sz P T=1)(ha:bF P T=false)(hx:t a = .ptr r k g 0 0)(hl:ble 1 kk=true)(hv:u.cells.getD 0 .Qz=v)(h:nK P rs t S (λvs=>KL (v::vs))):nK P (.cell a T::rs) t S KL:=by have:=gt (P:=P) (rg:=0) (d:=none) (t:=t) (x:=.tmp a) (K:=λv S=>nK P rs t S (λvs=>KL (v::vs))) hS hs ha (off:=0) hx (by rw[Nat.zero_add];exact hl) hv h;rw[Tu]at this;show jK P T (t a) S (λv=>nK P rs t S (λvs=>KL (v::vs)));exact this
end
variable{gj i:Nat}{E E':qz}
section
variable{P:Program}{n rg:Nat}{us:Nat->S9}{ops rest:List Oper}{op:Op}{d:Option Nat}{ty:TypeId}{pos:String}{after:Array Edge}{j:Nat}{log:Log}{t:Env}{S:St}{K Q8 ret:Env->St->Prop}{ex:Nat->Env->St->Prop}
theorem Vc.Qf(hm:P.follows .mixedOrders=true)(rg:Nat){l:List Oper}(us:Nat->S9)(QT:lL n l=true)(h:RK P rg us l l 0 [] t S Q8):Vc P n (.region id l.toArray true) ⟨Q8,ex,ret⟩ t S:=Vc.drawn hm rg us QT h
theorem dP(XV:zX (us j) op=false)(hE:nw rg (d.getD 0) (us j) op (ev t)=([],[]))(h:vo P rg d op t S (λv S'=>RK P rg us ops rest (j+1) log (dh t d v) S' K)):RK P rg us ops (⟨d,op,ty,pos,after,none⟩::rest) j log t S K:=by rw[Ht hE XV];exact h
theorem dL(XV:zX (us j) op=false)(hE:nw rg (d.getD 0) (us j) op (ev t)=E)(QI:E≠([],[]))(Xn:cf ops log j E)(h:vo P rg d op t S (λv S'=>RK P rg us ops rest (j+1) ((j,E)::log) (dh t d v) S' K)):RK P rg us ops (⟨d,op,ty,pos,after,none⟩::rest) j log t S K:=by rw[Hu hE XV QI];exact⟨Xn,h⟩
theorem cfn:cf ops [] j E:=λp hp=>by simp at hp
theorem SL(h:yk ops i j=true)(h':cf ops log j E):cf ops ((i,E')::log) j E:=λp hp=>by
 rcases List.mem_cons.1 hp with e|e;·subst e;exact .inl h
 ·exact h' p e
theorem Q0(h:ct E' E)(h':cf ops log j E):cf ops ((i,E')::log) j E:=λp hp=>by
 rcases List.mem_cons.1 hp with e|e;·subst e;exact .inr h
 ·exact h' p e
theorem Zs(hd:(ops[gj]?).bind (·.dst)=some g)(hb:t g = .bool b)(hv:b=want)(h:RK P rg us ops (⟨d,op,ty,pos,after,none⟩::rest) j log (SR t g (.bool want)) S K):RK P rg us ops (⟨d,op,ty,pos,after,some (gj,want)⟩::rest) j log t S K:=by rw[xB,hd];show(match t g with|.bool b=>_|.tuple []=>_|_=>False);rw[hb];exact⟨λ_=>h,λh'=>by subst hv;cases b<;>cases h'⟩
theorem dGF(hd:(ops[gj]?).bind (·.dst)=some g)(hb:t g = .bool b)(hv:b=b')(hn:b' = !want)(h:RK P rg us ops rest (j+1) log (dh (SR t g (.bool !want)) d (.tuple [])) S K):RK P rg us ops (⟨d,op,ty,pos,after,some (gj,want)⟩::rest) j log t S K:=by
 rw[xB,hd];show(match t g with|.bool b=>_|.tuple []=>_|_=>False);rw[hb];exact⟨λh'=>(by subst hv hn;cases want<;>cases h'),λ_=>h⟩
theorem dGU(hd:(ops[gj]?).bind (·.dst)=some g)(hb:t g = .tuple [])(h:RK P rg us ops rest (j+1) log (dh t d (.tuple [])) S K):RK P rg us ops (⟨d,op,ty,pos,after,some (gj,want)⟩::rest) j log t S K:=by rw[xB,hd];show(match t g with|.bool b=>_|.tuple []=>_|_=>False);rw[hb];exact h
theorem dC{f:Operand}{xs:List Operand}{ts:Array TypeId}{g:FuncId}{fs QG vs:List AV}{V:AV}(hf:ev t f = .fn (.func g) fs QG)(ha:SG (fs++(xs.map (ev t)++QG)) vs)(hc:∀S',Ctr P g vs S' (λv To=>v=V/\To=S'))(hu:us j=pc V)(h:RK P rg us ops rest (j+1) log (dh t d V) S K):RK P rg us ops (⟨d,.call { callee:=.value f,args:=xs.toArray,argTypes:=ts },ty,pos,after,none⟩::rest) j log t S K:=by
 rw[Cs,hu];refine⟨uA,?_⟩;rw[hf];exact⟨⟨λγ x hx=>by simp[pc]at hx,λS' _ _=>Ctr.arg ha.len (λi h1 h2=>ha.at i h1 h2) (Ctr.mono (hc S') λv To hh=>⟨λ_=>0,hh⟩)⟩,λ_=>h⟩
theorem dN(h:K t S):RK P rg us ops [] j log t S K:=h
end
variable{S:St}
theorem Rel.XF(h:Rel G S w)(hs:∀r k o' g,S' r k=some (o',g)->∃o,S r k=some (o,g)/\∀L,G.loc r k g=some L->jU G w L o'):Rel G S' w:=by
 refine⟨h.below,h.RM,λr k o' g e=>?_,?_,?_,h.U0⟩;·obtain⟨o,e0,hob⟩:=hs _ _ _ _ e;obtain⟨L,hL,_,Vl⟩:=h.obj _ _ _ _ e0;exact⟨L,hL,hob L hL,Vl⟩
 ·intro r1 k1 o1 g1 r2 k2 o2 g2 L1 L2 e1 e2 l1 l2 c1 c2 QI;obtain⟨_,f1,_⟩:=hs _ _ _ _ e1;obtain⟨_,f2,_⟩:=hs _ _ _ _ e2;exact h.inj _ _ _ _ _ _ _ _ _ _ f1 f2 l1 l2 c1 c2 QI
 ·obtain⟨N,hN⟩:=h.fin;refine⟨N,λr hr k=>?_⟩;cases e:S' r k with
  | none=>rfl
  | some x=>
   obtain⟨o,e0,_⟩:=hs _ _ _ _ e;rw[hN r hr k]at e0;cases e0
def VWZ(r k g kk:Nat)(xs:List AV)(a b:AV):Prop:=a.cells.length=b.cells.length/\∀j (h1:j<a.cells.length) (h2:j<b.cells.length),VW (wK r k g kk xs a.cells[j]) b.cells[j]
def OZ(r k g kk:Nat)(xs:List AV):QW->QW->Prop
 | .arr k1 [a],.arr k2 [b]=>k2=k1/\VWZ r k g kk xs a b
 | _,_=>False
def DA(r k g kk:Nat)(xs:List AV)(l:dG):dG->Prop
 | []=>True
 | (j,(o,g'))::m=>(SK l j=some (o,g')\/∃o0,SK l j=some (o0,g')/\OZ r k g kk xs o0 o)/\DA r k g kk xs l m
theorem DA.at{r k g kk:Nat}{xs:List AV}{l:dG}:∀ {m:dG},DA r k g kk xs l m->∀j o' g',SK m j=some (o',g')->SK l j=some (o',g')\/∃o0,SK l j=some (o0,g')/\OZ r k g kk xs o0 o'
 | [],_,j,o',g',e=>by simp[SK]at e
 | (j0,(o,g0))::m,h,j,o',g',e=>by
  simp only[SK]at e;by_cases hk:j=j0
  ·subst hk;have:beq j j=true:=by simp
   rw[this,cond_true]at e;cases e;exact h.1
  ·rw[oS hk,cond_false]at e;exact h.2.at j o' g' e
variable{xs:List AV}
theorem zn{l:dG}:DA r k g kk xs l []:=trivial
theorem zc{l m:dG}(h:SK l j=some (o,g'))(h':DA r k g kk xs l m):DA r k g kk xs l ((j,(o,g'))::m):=⟨.inl h,h'⟩
def FZL(r k g kk:Nat)(xs:List AV):List AV->List AV->Prop
 | [],[]=>True
 | a::l,b::m=>VW (wK r k g kk xs a) b/\FZL r k g kk xs l m
 | _,_=>False
theorem FZL.len{r k g kk:Nat}{xs:List AV}:∀ {l m:List AV},FZL r k g kk xs l m->l.length=m.length
 | [],[],_=>rfl
 | _::_,_::_,h=>by simp[h.2.len]
theorem FZL.at{r k g kk:Nat}{xs:List AV}:∀ {l m:List AV},FZL r k g kk xs l m->∀i (h1:i<l.length) (h2:i<m.length),VW (wK r k g kk xs l[i]) m[i]
 | a::l,b::m,h,0,_,_=>h.1
 | a::l,b::m,h,i+1,h1,h2=>h.2.at i (by simpa using h1) (by simpa using h2)
theorem zb{l m:dG}{k1:Nat}{a b:AV}(h:SK l j=some (.arr k1 [a],g'))(hz:FZL r k g kk xs a.cells b.cells)(h':DA r k g kk xs l m):DA r k g kk xs l ((j,(.arr k1 [b],g'))::m):=⟨.inr ⟨_,h,rfl,hz.len,λi h1 h2=>hz.at i h1 h2⟩,h'⟩
theorem zl{a b:AV}{l m:List AV}(h:VW (wK r k g kk xs a) b)(h':FZL r k g kk xs l m):FZL r k g kk xs (a::l) (b::m):=⟨h,h'⟩
def Dl{α β:Type}(f:(α->β->Prop)->Prop)(k:α->β->Prop):Prop:=∃r s,f (λx y=>x=r/\y=s)/\k r s
attribute [go_sem] yD yE
theorem bS(hS:S r k=some (.arr kk (l.map enc),g))(hn:n=l.length):qL S (.sl kk r k g 0 n)=some (l.map enc):=Hs hS (by rw[length_map];exact hn)
variable{ex:Nat->Env->St->Prop}
section
variable{P:Program}{n:Nat}{ops rest:List Oper}{K:Env->St->Prop}{d:Option Nat}{op:Op}{ty:TypeId}{pos:String}{after:Array Edge}{t:Env}{S:St}{x:Operand}
theorem wZ(rg:Nat)(h:vo P rg d op t S (λv S'=>Wl P n ops rest K (dh t d v) S')):Wl P n ops (⟨d,op,ty,pos,after,none⟩::rest) K t S:=Wl.cons rg h
theorem Uk(v:AV)(hx:ev t x=v)(h:Wl P n ops rest K (dh t d v) S):Wl P n ops (⟨d,.move x,ty,pos,after,none⟩::rest) K t S:=Wl.cons 0 (Ir hx h)
theorem RJ(v:AV)(hx:ev t x=v)(h:Wl P n ops rest K (dh t d v) S):Wl P n ops (⟨d,.assign x,ty,pos,after,none⟩::rest) K t S:=Wl.cons 0 (bX hx h)
theorem nZ(h:K t S):Wl P n ops [] K t S:=Wl.nil h
theorem qZ{x y:Code}{Q8 ret:Env->St->Prop}(h:Vc P n x ⟨Vc P n y ⟨Q8,ex,ret⟩,ex,ret⟩ t S):Vc P n (.seq x y) ⟨Q8,ex,ret⟩ t S:=Vc.seq h
theorem rZ{Q8 ret:Env->St->Prop}{l:List Oper}(h:Wl P n l l Q8 t S):Vc P n (.region id l.toArray false) ⟨Q8,ex,ret⟩ t S:=Vc.region h
end
end Go.Gg
namespace Go.Gg
theorem O{α:Sort _}{a:α}:a=a:=rfl
abbrev iZ(n:Int):AV:=.int .i64 n
abbrev bE:List Int->AV:=eL (AV.int .u32)
abbrev aF:List Int->AV:=eL iZ
theorem QK{P:Prop}(h:P:=by first|rfl|omega|(simp only[yD,yE]<;>omega)):P:=h
theorem Ql{P:Prop}(h:P:=by kernel_rfl):P:=h
theorem dZ{P:Prop}(h:P:=by decide):P:=h
def FA(P:Program)(T f off et:Nat):Prop:=∃fs,td P T = .struct fs/\fs.getD f (0,0)=(off,et)/\ble (f+1) fs.length=true/\0<sz P et
variable{P:Program}{t:Env}{rg:Nat}{S:St}{d:Option Nat}
theorem faZ{K:AV->St->Prop}{x:Operand}{T f off et:Nat}{cs:List AV}(h:FA P T f off et)(hx:ev t x = .Q2 cs)(hl:ble off cs.length=true)(k:K (.Q2 (cs.drop off)) S):vo P rg d (.fieldAddr T x f) t S K:=
 let ⟨_,h1,h2,h3,h4⟩:=h
 Pz h1 h2 h3 h4 hx hl k
variable{i:Nat}
theorem yN{K:AV->St->Prop}{x:Operand}{T f off et r k' g VJ:Nat}(h:FA P T f off et)(hx:ev t x = .ptr r k' g i VJ)(k:K (.ptr r k' g i (VJ+off)) S):vo P rg d (.fieldAddr T x f) t S K:=
 let ⟨_,h1,h2,h3,h4⟩:=h
 Ot h1 h2 h3 h4 hx k
variable{C:Prop}
theorem Qp{A B:Prop}(h:A/\B)(k:A->B->C):C:=k h.1 h.2
theorem Wc{c:Bool}{A B:Prop}(h:af c A B)(h1:c=true->A->C)(h2:c=false->B->C):C:=by
 cases c;·exact h2 rfl (h.2 rfl)
 ·exact h1 rfl (h.1 rfl)
theorem TP{α:Type}{e:α}{k:α->Prop}(h:kf e k)(f:∀v,v=e->k v->C):C:=f e rfl (h e rfl)
variable{c:Operand}{nr:Env->St->Prop}{id:Nat}{v:Bool}{σ γ:Type}{f:σ->(σ->Prop)->Prop}{A:(σ->Prop)->Prop}{B:σ->Prop}{z:σ}
section
variable{P:Program}{n:Nat}{Q8 ret:Env->St->Prop}{ex:Nat->Env->St->Prop}{t:Env}{S:St}{x y:Code}
theorem kZ(h:Q8 t S):Vc P n .skip ⟨Q8,ex,ret⟩ t S:=Vc.skip h
theorem uZ(h:ret t S):Vc P n .ret ⟨Q8,ex,ret⟩ t S:=Vc.ret h
theorem VB(h:Q8 t S):Vc P n (.exit id) ⟨nr,exB id Q8 ex,ret⟩ t S:=Vc.exit (rC h)
theorem xnZ(hi:beq i id=false)(h:ex i t S):Vc P n (.exit i) ⟨nr,exB id Q8 ex,ret⟩ t S:=Vc.exit (Nj hi h)
theorem bZ(h:Vc P n x ⟨Q8,exB id Q8 ex,ret⟩ t S):Vc P n (.block id x) ⟨Q8,ex,ret⟩ t S:=Vc.block h
theorem cZ{A B:Prop}(h:af v A B)(hc:ev t c = .bool v)(h1:v=true->A->Vc P n x ⟨Q8,ex,ret⟩ t S)(h2:v=false->B->Vc P n y ⟨Q8,ex,ret⟩ t S):Vc P n (.cond c x y) ⟨Q8,ex,ret⟩ t S:=Vc.cond hc (λe=>h1 e (h.1 e)) (λe=>h2 e (h.2 e))
theorem U_(hc:ev t c = .bool v)(hv:v=true)(h1:Vc P n x ⟨Q8,ex,ret⟩ t S):Vc P n (.cond c x y) ⟨Q8,ex,ret⟩ t S:=Vc.Qb hc hv h1
theorem Yo(hc:ev t c = .bool v)(hv:v=false)(h1:Vc P n y ⟨Q8,ex,ret⟩ t S):Vc P n (.cond c x y) ⟨Q8,ex,ret⟩ t S:=Vc.aeG hc hv h1
theorem Rf(h:aO z f)(T:σ->Env)(Z:σ->St)(hx:Rm t S (T z) (Z z))(k:∀y nx,f y nx->Vc P n x ⟨λt S=>∃z,Rm t S (T z) (Z z)/\nx z,ex,ret⟩ (T y) (Z y)):Vc P n (.loop x) ⟨Q8,ex,ret⟩ t S:=
 let ⟨I,μ,h0,hI⟩:=h
 Vc.loop I μ T Z z hx h0 λy hy=>k y _ (hI y hy)
theorem SB(h:aO z f)(g:γ)(T:σ×γ->Env)(Z:σ×γ->St)(hx:Rm t S (T (z,g)) (Z (z,g)))(k:∀y nx,f y.1 nx->Vc P n x ⟨λt S=>∃z,Rm t S (T z) (Z z)/\nx z.1,ex,ret⟩ (T y) (Z y)):Vc P n (.loop x) ⟨Q8,ex,ret⟩ t S:=
 let ⟨I,μ,h0,hI⟩:=h
 Vc.loop (λy=>I y.1) (λy=>μ y.1) T Z (z,g) hx h0 λy hy=>k y _ (hI y.1 hy)
theorem Uz(h:bV A B)(T:σ->Env)(Z:σ->St)(hK:∀z,B z->Vc P n y ⟨Q8,ex,ret⟩ (T z) (Z z))(h1:∀J,A J->Vc P n x ⟨λt S=>∃z,Rm t S (T z) (Z z)/\J z,ex,ret⟩ t S):Vc P n (.seq x y) ⟨Q8,ex,ret⟩ t S:=
 let ⟨J,hA,hB⟩:=h
 Vc.ZX J T Z (λz hz=>hK z (hB z hz)) (h1 J hA)
theorem Ud(h:bV A B)(T:σ×γ->Env)(Z:σ×γ->St)(hK:∀z:σ×γ,B z.1->Vc P n y ⟨Q8,ex,ret⟩ (T z) (Z z))(h1:∀J,A J->Vc P n x ⟨λt S=>∃z,Rm t S (T z) (Z z)/\J z.1,ex,ret⟩ t S):Vc P n (.seq x y) ⟨Q8,ex,ret⟩ t S:=
 let ⟨J,hA,hB⟩:=h
 Vc.ZX (λz=>J z.1) T Z (λz hz=>hK z (hB z.1 hz)) (h1 J hA)
end
variable{b want:Bool}
section
variable{P:Program}{n:Nat}{t:Env}{S:St}{ops rest:List Oper}{K:Env->St->Prop}{d:Option Nat}{op:Op}{ty:TypeId}{pos:String}{after:Array Edge}{j g:Nat}
theorem gTZ(hd:(ops[j]?).bind (·.dst)=some g)(hb:t g = .bool b)(hv:b=want)(h1:Wl P n ops (⟨d,op,ty,pos,after,none⟩::rest) K t S):Wl P n ops (⟨d,op,ty,pos,after,some (j,want)⟩::rest) K t S:=Wl.abe hd hb hv h1
theorem gFZ{b':Bool}(hd:(ops[j]?).bind (·.dst)=some g)(hb:t g = .bool b)(hv:b=b')(hn:b' = !want)(h1:Wl P n ops rest K (dh t d (.tuple [])) S):Wl P n ops (⟨d,op,ty,pos,after,some (j,want)⟩::rest) K t S:=Wl.abf hd hb hv hn h1
theorem gUZ(hd:(ops[j]?).bind (·.dst)=some g)(hb:t g = .tuple [])(h2:Wl P n ops rest K (dh t d (.tuple [])) S):Wl P n ops (⟨d,op,ty,pos,after,some (j,want)⟩::rest) K t S:=Wl.abd hd hb h2
theorem Te{A B:Prop}(h:af b A B)(hd:(ops[j]?).bind (·.dst)=some g)(hb:t g = .bool b)(h1:b=true->A->Wl P n ops (⟨d,op,ty,pos,after,none⟩::rest) K t S)(h2:b=false->B->Wl P n ops rest K (dh t d (.tuple [])) S) :Wl P n ops (⟨d,op,ty,pos,after,some (j,true)⟩::rest) K t S:=Wl.guard hd hb (λe=>h1 e (h.1 e)) (λe=>h2 e (h.2 e))
theorem T8{A B:Prop}(h:af b A B)(hd:(ops[j]?).bind (·.dst)=some g)(hb:t g = .bool b)(h1:b=false->B->Wl P n ops (⟨d,op,ty,pos,after,none⟩::rest) K t S)(h2:b=true->A->Wl P n ops rest K (dh t d (.tuple [])) S) :Wl P n ops (⟨d,op,ty,pos,after,some (j,false)⟩::rest) K t S:=Wl.guard hd hb (λe=>h1 e (h.2 e)) (λe=>h2 e (h.1 e))
end
theorem NS:∀l:List AV,SG l l
 | []=>trivial
 | _::l=>⟨VW.refl _,NS l⟩
theorem Qn{K:AV->St->Prop}{f:Operand}{xs:List Operand}{ts:Array TypeId}{g:FuncId}{fs QG:List AV}(hf:ev t f = .fn (.func g) fs QG)(h:Ctr P g (fs++(xs.map (ev t)++QG)) S K) :vo P rg d (.call { callee:=.value f,args:=xs.toArray,argTypes:=ts }) t S K:=Ec hf (NS _) h
variable{k:Nat}
theorem fZ{l:List (Nat×AV)}(h:Fit t l):Fit t ((k,t k)::l):=⟨VW.refl _,h⟩
theorem vZ{a:AV}{l m:List AV}(h:SG l m):SG (a::l) (a::m):=⟨VW.refl _,h⟩
variable{K:Env->St->Prop}{n:Nat}{S':St}{t':Env}
theorem fh{ops l:List Oper}(hw:Rm t S t' S')(h:Wl P n ops l K t' S'):Wl P n ops l K t S:=Wl.wk hw h
theorem Dy{c:Code}{Q:AK}(hw:Rm t S t' S')(h:Vc P n c Q t' S'):Vc P n c Q t S:=Vc.wk hw h
theorem aM{ops l:List Oper}(e:S=S')(h:Wl P n ops l K t S'):Wl P n ops l K t S:=e▸h
variable{j:Nat}
theorem cg{us:Nat->S9}{ops rest:List Oper}{log:Log}(e:S=S')(h:RK P rg us ops rest j log t S' K):RK P rg us ops rest j log t S K:=e▸h
theorem VW.list{es Tq:List AV}(hl:Tq.length=es.length)(h:∀i (h1:i<es.length) (h2:i<Tq.length),VWC es[i] Tq[i]):VW (.list es) (.list Tq):=λG x hx=>by
 cases hx with
 | list _ a n cap c y k u h1 h2 h3 h4 h5 h6 h7=>
  refine .list Tq a n cap c y k u om h2 h3 h4 (λi hi=>?_) h6 (λi hi j hj=>?_);·rw[<-(h i om hi).1,h5 i om]
  ·exact(h i om hi).2 j (by rw[(h i om hi).1];exact hj) hj G _ (h7 i om j (by rw[(h i om hi).1];exact hj))
section
variable{P:Program}{rg:Nat}{us:Nat->S9}{ops rest:List Oper}{op:Op}{d:Option Nat}{ty:TypeId}{pos:String}{after:Array Edge}{j:Nat}{log:Log}{t:Env}{S:St}{K:Env->St->Prop}{T e:TypeId}{x y:Operand}
end
variable{R:AV->St->Prop}
theorem Tl{v:AV}{l:dG}(SY:∀k,S rg k=none)(h:R v S):dz R v (Qr S rg l):=ak SY (VW.refl _) h
theorem aZ{S0:St}{l:dG}(k:Nat){x:QW×Nat}(h:SK l k=some x):Qr S0 rg l rg k=some x:=atL h
theorem Sy{l:dG}(SY:∀k,S rg k=none)(h:R (.tuple []) S):BB P [] R t (Qr S rg l):=Tl SY h
variable{a:Nat}
theorem Qv{l:dG}(SY:∀k,S rg k=none)(h:R (t a) S):BB P [.tmp a] R t (Qr S rg l):=Tl SY h
theorem aj{ops rest:List Oper}{op:Op}{ty:TypeId}{pos:String}{after:Array Edge}(h:vo P 0 d op t S (λv S'=>Wl P n ops rest K (dh t d v) S')):Wl P n ops (⟨d,op,ty,pos,after,none⟩::rest) K t S:=Wl.cons 0 h
theorem kD{b c d:Nat}{l:List (Nat×AV)}(h:Fit t l):Fit t ((a,t a)::(b,t b)::(c,t c)::(d,t d)::l):=fZ (fZ (fZ (fZ h)))
theorem mK{l m:dG}{b c d:Nat}{x y z w:QW×Nat}(h1:SK l a=some x)(h2:SK l b=some y)(h3:SK l c=some z)(h4:SK l d=some w)(h:zo l m):zo l ((a,x)::(b,y)::(c,z)::(d,w)::m):=sc h1 (sc h2 (sc h3 (sc h4 h)))
section
variable{P:Program}{n:Nat}{Q8 ret:Env->St->Prop}{ex:Nat->Env->St->Prop}{t:Env}{S:St}{x y:Code}{id:Nat}{l ops:List Oper}
theorem dj(h:Wl P n l l (Vc P n y ⟨Q8,ex,ret⟩) t S):Vc P n (.seq (.region id l.toArray false) y) ⟨Q8,ex,ret⟩ t S:=qZ (rZ h)
theorem P8(h:Wl P n l l (Vc P n y ⟨Q8,ex,ret⟩) t S):Wl P n ops [] (Vc P n (.seq (.region id l.toArray false) y) ⟨Q8,ex,ret⟩) t S:=nZ (qZ (rZ h))
theorem eT(h:ret t S):Wl P n ops [] (Vc P n .ret ⟨Q8,ex,ret⟩) t S:=nZ (uZ h)
end
def ba(l:List Int):Prop:=∀i,0<=l.getD i 0/\l.getD i 0<4294967296
def pv(l:List Int):Nat->Int
 | 0=>0
 | i+1=>pv l i+l.getD i 0*4294967296^i
def val(l:List Int):Nat:=(pv l l.length).toNat
def lim(n:Nat):List Int:=if h:n=0 then []else (n%4294967296:Nat)::lim (n/4294967296)
termination_by n
decreasing_by exact div_lt_self om om
variable{l:List Int}
theorem FQ(h:l.length<=i):l.getD i 0=0:=by simp[List.getD_eq_getElem?_getD,List.getElem?_eq_none h]
theorem ba.take{l:List Int}(h:ba l)(j:Nat):ba (l.take j):=λi=>by
 have:=h i;rw[List.getD_eq_getElem?_getD,List.getElem?_take]at *
 split<;>simp_all
theorem ba.set{l:List Int}(h:ba l)(j:Nat){x:Int}(h0:0<=x)(h1:x<4294967296):ba (l.set j x):=λi=>by
 have:=h i;rw[List.getD_eq_getElem?_getD,List.getElem?_set]at *
 split;·split<;>simp_all
 ·exact this
theorem ba.nil:ba []:=λi=>by simp
theorem ba.rep(n:Nat):ba (List.replicate n 0):=λi=>by rw[List.getD_eq_getElem?_getD,List.getElem?_replicate];split<;>simp
variable{x:Int}
theorem ba.cons(h:ba l)(h0:0<=x)(h1:x<4294967296):ba (x::l):=λi=>by
 cases i with
 | zero=>exact⟨h0,h1⟩
 | succ i=>exact h i
theorem ba.tail(h:ba (x::l)):ba l:=λi=>h (i+1)
theorem ba.drop{l:List Int}(h:ba l)(j:Nat):ba (l.drop j):=λi=>by have:=h (j+i);rw[List.getD_eq_getElem?_getD,List.getElem?_drop];rwa[List.getD_eq_getElem?_getD]at this
theorem pG{l m:List Int}:∀(i:Nat),(∀k,k<i->l.getD k 0=m.getD k 0)->pv l i=pv m i
 | 0,_=>rfl
 | i+1,h=>by rw[pv,pv,pG i (λk hk=>h k om),h i om]
theorem cz{l:List Int}(h:ba l):∀i,0<=pv l i/\pv l i<4294967296^i
 | 0=>by simp[pv]
 | i+1=>by
  obtain⟨h1,h2⟩:=cz h i;obtain⟨h3,h4⟩:=h i;rw[pv,Int.pow_succ];have hp:(0:Int)<4294967296^i:=om;have h5:l.getD i 0*4294967296^i<=4294967295*4294967296^i:=Int.mul_le_mul_of_nonneg_right om om;have h6:0<=l.getD i 0*4294967296^i:=Int.mul_nonneg h3 om;generalize l.getD i 0*4294967296^i=q at *
  generalize (4294967296:Int)^i=p at *
  omega
theorem As{l:List Int}:∀i,l.length<=i->pv l i=pv l l.length
 | 0,h=>by have:l.length=0:=om;rw[this]
 | i+1,h=>by
  rcases Nat.lt_or_ge i l.length with h'|h';·have:i+1=l.length:=om;rw[this]
  ·rw[pv,As i h',FQ h'];simp
theorem eR(h:ba l):(val l:Int)=pv l l.length:=by unfold val;have:=(cz h l.length).1;omega
theorem oM(h:ba l)(hi:l.length<=i):(val l:Int)=pv l i:=by rw[eR h,As i hi]
theorem tE:val []=0:=rfl
theorem Fo(x:Int)(l:List Int):∀i,pv (x::l) (i+1)=x+4294967296*pv l i
 | 0=>by simp[pv]
 | i+1=>by
  rw[pv,Fo x l i,pv];have:(x::l).getD (i+1) 0=l.getD i 0:=by simp
  rw[this,Int.pow_succ];generalize l.getD i 0=a;generalize (4294967296:Int)^i=p;rw[Int.mul_add,mul_comm p 4294967296,<-Int.mul_assoc,<-Int.mul_assoc,mul_comm a 4294967296];omega
theorem qU(h:ba (x::l)):val (x::l)=x.toNat+4294967296*val l:=by
 have h1:=eR h;have h2:=eR h.tail;have h3:=h 0;have:(x::l).getD 0 0=x:=by simp
 rw[this]at h3;rw[List.length_cons,Fo]at h1;omega
theorem Ar(h:i<=j):pv (l.set j x) i=pv l i:=pG i λk hk=>by rw[List.getD_eq_getElem?_getD,List.getD_eq_getElem?_getD,List.getElem?_set_ne om]
theorem sN(h:j<l.length):(l.set j x).getD j 0=x:=by rw[List.getD_eq_getElem?_getD,List.getElem?_set_self h];rfl
theorem iG(h:j≠i):(l.set j x).getD i 0=l.getD i 0:=by rw[List.getD_eq_getElem?_getD,List.getD_eq_getElem?_getD,List.getElem?_set_ne h]
theorem ya(h:j<l.length):pv (l.set j x) (j+1)=pv l j+x*4294967296^j:=by rw[pv,Ar (le_refl _),sN h]
theorem Fm(h:i<=j):pv (l.take j) i=pv l i:=pG i λk hk=>by rw[List.getD_eq_getElem?_getD,List.getD_eq_getElem?_getD,List.getElem?_take_of_lt om]
theorem wY{l:List Int}{j:Nat}:∀i,j<=i->(∀k,j<=k->k<i->l.getD k 0=0)->pv l i=pv l j
 | 0,h,_=>by have:j=0:=om;rw[this]
 | i+1,h,hz=>by
  by_cases hj:j=i+1;·rw[hj]
  ·rw[pv,wY i om (λk h1 h2=>hz k h1 om),hz i om om];simp
theorem yb(n:Nat):∀i,pv (List.replicate n 0) i=0
 | 0=>rfl
 | i+1=>by rw[pv,yb n i,List.getD_eq_getElem?_getD,List.getElem?_replicate];split<;>simp
theorem LH{m:List Int}(hl:ba l)(hm:ba m)(hi:i<n)(h:l.getD i 0<m.getD i 0)(he:∀k,i<k->k<n->l.getD k 0=m.getD k 0):pv l n<pv m n:=by
 induction n with
 | zero=>omega
 | succ n ih=>
  rw[pv,pv];by_cases T7:i=n;·subst T7;obtain⟨a1,a2⟩:=cz hl i;obtain⟨b1,b2⟩:=cz hm i;have hp:(0:Int)<4294967296^i:=om;have h5:(l.getD i 0+1)*4294967296^i<=m.getD i 0*4294967296^i:=Int.mul_le_mul_of_nonneg_right om om;rw[Int.add_mul]at h5;omega
  ·have h1:=ih om (λk h1 h2=>he k h1 om);rw[he n om om];omega
theorem ff:lim 0=[]:=by rw[lim];simp
theorem ku(h:0<n):lim n=((n%4294967296:Nat):Int)::lim (n/4294967296):=by rw[lim,dif_neg om]
theorem bc(n:Nat):ba (lim n):=by
 induction n using Nat.strongRecOn with
 | _ n ih=>
  by_cases h:n=0;·subst h;rw[ff];exact ba.nil
  ·rw[ku om];exact(ih _ (div_lt_self om om)).cons om om
theorem bQ(n:Nat):val (lim n)=n:=by
 induction n using Nat.strongRecOn with
 | _ n ih=>
  by_cases h:n=0;·subst h;rw[ff];rfl
  ·have hw:=bc n;rw[ku om]at hw ⊢;rw[qU hw,ih _ (div_lt_self om om)];omega
theorem FJ(hw:ba l)(R9:0<l.length->l.getD (l.length-1) 0≠0):lim (val l)=l:=by
 induction l with
 | nil=>exact ff
 | cons x l ih=>
  have hx:=hw 0;have e0:(x::l).getD 0 0=x:=by simp
  rw[e0]at hx;rw[qU hw];have Uh:0<x.toNat+4294967296*val l:=by
   cases l with
   | nil=>have:=R9 Qy;simp at this;omega
   | cons y l=>
    have h1:=ih hw.tail (λ_=>by have:=R9 Qy;simpa using this);have:val (y::l)≠0:=λh=>by rw[h,ff]at h1;cases h1
    omega
  rw[ku Uh];have h1:(x.toNat+4294967296*val l)%4294967296=x.toNat:=om;have h2:(x.toNat+4294967296*val l)/4294967296=val l:=om;rw[h1,h2,ih hw.tail (λhp=>by
   have:=R9 Qy;cases l with
   | nil=>simp at hp
   | cons y l=>simpa using this)]
  congr 1;omega
theorem yC(hw:ba l)(hj:j<=l.length)(hz:∀i,j<=i->i<l.length->l.getD i 0=0)(R9:0<j->l.getD (j-1) 0≠0):l.take j=lim (val l):=by
 have h1:lim (val (l.take j))=l.take j:=FJ (hw.take j) (λhp=>by
  have hlen:(l.take j).length=j:=by simp;omega
  rw[hlen]at hp ⊢;have:=R9 hp;rwa[List.getD_eq_getElem?_getD,List.getElem?_take_of_lt om,<-List.getD_eq_getElem?_getD])
 have h2:val (l.take j)=val l:=by
  have a:=eR (hw.take j);have b:=eR hw;have hlen:(l.take j).length=j:=by simp;omega
  rw[hlen,Fm (le_refl _)]at a;rw[wY l.length hj hz]at b;omega
 rw[<-h2,h1]
theorem iF(hw:ba l):(lim (val l)).length<=l.length:=by
 have key:∀n,n<=l.length->(∀i,n<=i->i<l.length->l.getD i 0=0)->(lim (val l)).length<=n:=by
  intro n;induction n with
  | zero=>intro h1 h2;rw[<-yC hw h1 h2 (λh=>om)];simp
  | succ n ih=>
   intro h1 h2;by_cases h:l.getD n 0=0
   ·have:=ih om (λi a b=>by
     by_cases e:i=n;·subst e;exact h
     ·exact h2 i om b)
    omega
   ·rw[<-yC hw h1 h2 (λ_=>h)];simp;omega
 exact key l.length (le_refl _) (λi h1 h2=>om)
variable{m:Nat}
theorem f_(h:m<=n):(lim m).length<=(lim n).length:=by
 induction n using Nat.strongRecOn generalizing m with
 | _ n ih=>
  by_cases h0:m=0;·subst h0;rw[ff];simp
  ·rw[ku om,ku (by omega:0<n)];have:=ih (n/4294967296) (div_lt_self om om) (Nat.div_le_div_right (c:=4294967296) h);simp;omega
theorem Ek(h:n<4294967296^k):(lim n).length<=k:=by
 induction n using Nat.strongRecOn generalizing k with
 | _ n ih=>
  by_cases h0:n=0;·subst h0;rw[ff];simp
  ·rw[ku om];cases k with
   | zero=>simp at h;omega
   | succ k=>
    have:=ih (n/4294967296) (div_lt_self om om) (k:=k) (by
     rw[Nat.pow_succ]at h;rw[Nat.div_lt_iff_lt_mul om];exact h)
    simp;omega
def wR(m n:Nat):Int:=if m<n then -1 else if m=n then 0 else 1
theorem uy:wR m n<0↔m<n:=by
 unfold wR;by_cases h:m<n;·simp[h]
 ·rw[if_neg h];split<;>omega
theorem wW(c p:Int):(c%4294967296)*p+(c/4294967296)*(p*4294967296)=c*p:=by
 have h:c=4294967296*(c/4294967296)+c%4294967296:=om;generalize c/4294967296=a at *
 generalize c%4294967296=b at *
 subst h;rw[Int.add_mul,mul_comm p 4294967296,<-Int.mul_assoc,mul_comm a 4294967296,Int.add_comm]
theorem ED{y o c p:Int}(h:o+c*(p*4294967296)=x+y)(ho:0<=o)(hx:x<p)(hy:y<p)(h0:0<=c)(h1:c<=1)(hp:0<p):c=0:=by
 rcases (by omega:c=0\/c=1)with rfl|rfl;·rfl
 ·omega
theorem mr{l:List Int}{j:Nat}{x:Int}(hj:j<l.length):∀i,j<i->pv (l.set j x) i=pv l i+(x-l.getD j 0)*4294967296^j
 | 0,h=>om
 | i+1,h=>by
  rw[pv,pv];by_cases Sv:j=i;·subst Sv;rw[Ar (le_refl _),sN hj,Int.sub_mul];omega
  ·rw[mr hj i om,iG Sv];omega
theorem uV{l:List Int}(hw:ba l){i:Nat}:∀ {j:Nat},i<=j->pv l i<=pv l j
 | 0,h=>by have:i=0:=om;subst this;exact Int.le_refl _
 | j+1,h=>by
  by_cases Sv:i=j+1;·subst Sv;exact Int.le_refl _
  ·have h1:=uV hw (show i<=j by omega);have h2:0<=l.getD j 0*4294967296^j:=Int.mul_nonneg (hw j).1 (by have:(0:Int)<4294967296^j:=pow_pos om;omega);rw[pv];omega
theorem CD(x y b:Int)(hx:0<=x/\x<4294967296)(hy:0<=y/\y<4294967296)(hb:0<=b/\b<=1) :
  (IntKind.u64.wrap (IntKind.u64.wrap (x-y)-b)%4294967296-4294967296*(IntKind.u64.wrap (IntKind.u64.wrap (x-y)-b)/9223372036854775808)=x-y-b)/\
   0<=IntKind.u64.wrap (IntKind.u64.wrap (x-y)-b)/9223372036854775808/\IntKind.u64.wrap (IntKind.u64.wrap (x-y)-b)/9223372036854775808<=1:=by
 simp only[Cn];omega
theorem IK{y:Int}(hx:0<=x/\x<4294967296)(hy:0<=y/\y<4294967296):0<=x*y/\x*y<=18446744065119617025:=⟨Int.mul_nonneg hx.1 hy.1,Int.le_trans (Int.mul_le_mul (by omega:x<=4294967295) (by omega:y<=4294967295) hy.1 om) om⟩
theorem lw(i:Nat):(0:Int)<4294967296^i:=pow_pos om
theorem w_{l:List Int}(hw:ba l){n:Nat}:∀ {m:Nat},n<=m->pv l m<4294967296^n->pv l m=pv l n
 | 0,h,_=>by have:n=0:=om;subst this;rfl
 | m+1,h,QH=>by
  by_cases hn:n=m+1;·subst hn;rfl
  ·have h1:pv l m<=pv l (m+1):=uV hw om;have h2:=w_ hw (show n<=m by omega) om;have h3:l.getD m 0=0:=by
    rcases Int.lt_or_le 0 (l.getD m 0)with hp|hp
    ·exfalso;have h4:(4294967296:Int)^n<=4294967296^m:=by
      have:(4294967296:Int)^m=4294967296^n*4294967296^(m-n):=by rw[<-Int.pow_add];congr 1;omega
      rw[this];have a1:(0:Int)<4294967296^n:=pow_pos om;have a2:(0:Int)<4294967296^(m-n):=pow_pos om;have a3:(4294967296:Int)^n*1<=4294967296^n*4294967296^(m-n):=Int.mul_le_mul_of_nonneg_left om om;omega
     have h5:1*(4294967296:Int)^m<=l.getD m 0*4294967296^m:=Int.mul_le_mul_of_nonneg_right om (by have:(0:Int)<4294967296^m:=pow_pos om;omega);have h6:=(cz hw m).1;rw[pv]at QH;omega
    ·have:=(hw m).1;omega
   rw[pv,h3,h2];omega
end Go.Gg
