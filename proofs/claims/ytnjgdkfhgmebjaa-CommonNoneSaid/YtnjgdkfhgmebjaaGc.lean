/- An own logic over the kit's weakest preconditions, part Q: code and lists of operations, told by what they do; rules for them. Conditions: none. -/
import Derived.Test.YtnjgdkfhgmebjaaGb
import Derived.KernelRfl
namespace Go.Gg
open Go.RowKit (Below)
def Vc (P:Program) (n:Nat) (c:Code) (Q:AK) (t:Env) (S:St):Prop:=
  ∀(ro:Option Nat),fp ro.isSome n c=true->∀(G:Ghost) (a:Act) (w:World),Rel G S w->TR n G t a->c.wpIn (fen ro) 0 P (Q.lift n G) a w
section
variable {P:Program} {n:Nat} {Q:AK} {t:Env} {S:St}
theorem AK.lift_mono {Q:AK} {G G':Ghost} (hg:G.le G') {e:Exit} {a:Act} {w:World} (h:Q.lift n G' e a w):Q.lift n G e a w:=by
  cases e<;>first | exact Gg.lift_mono h hg | exact h
theorem Vc.wk {c:Code} {t':Env} {S':St} (hw:EWk t S t' S') (h:Vc P n c Q t' S'):Vc P n c Q t S:=λro hok G a w hr ht=>
  let ⟨G',a1,a2,a3⟩:=hw n G a w hr ht
  wpIn_mono (h ro hok G' a w a2 a3) (λ_ _ _ he=>AK.lift_mono a1 he)
theorem Vc.skip (h:Q.nrm t S):Vc P n .skip Q t S:=λ_ _ G _ _ hr ht=>wpIn_skip ⟨t,S,G,h,Ghost.le.refl G,hr,ht⟩
theorem Vc.exit {id:Nat} (h:Q.ex id t S):Vc P n (.exit id) Q t S:=λ_ _ G _ _ hr ht=>wpIn_exit ⟨t,S,G,h,Ghost.le.refl G,hr,ht⟩
theorem Vc.ret (h:Q.ret t S):Vc P n .ret Q t S:=λ_ _ G _ _ hr ht=>wpIn_ret ⟨t,S,G,h,Ghost.le.refl G,hr,ht⟩
theorem Vc.seq {x y:Code} (h:Vc P n x { Q with nrm:=Vc P n y Q } t S):Vc P n (.seq x y) Q t S:=by
  intro ro hok G a w hr ht
  simp only[fp,Bool.and_eq_true] at hok
  refine wpIn_seq (wpIn_mono (h ro hok.1 G a w hr ht) (λe a w he=>?_))
  cases e with
  | normal=>
    obtain⟨t',S',G',r,le,hr',ht'⟩:=he
    exact wpIn_mono (r ro hok.2 G' a w hr' ht') (λ_ _ _ he=>AK.lift_mono le he)
  | exit id=>exact he
  | ret=>exact he
  | goto l=>exact he
  | panic c=>exact he
  | outgrown=>exact he
theorem Vc.cond {c:Operand} {x y:Code} {v:Bool} (hc:ev t c = .bool v) (h1:v=true->Vc P n x Q t S) (h2:v=false->Vc P n y Q t S):Vc P n (.cond c x y) Q t S:=by
  intro ro hok G a w hr ht
  simp only[fp,Bool.and_eq_true] at hok
  have hcv:=ht.eval c
  rw[hc] at hcv
  generalize he:a.eval c=cv at hcv
  cases hcv
  exact wpIn_cond_split he (λhv=>h1 hv ro hok.1 G a w hr ht) (λhv=>h2 hv ro hok.2 G a w hr ht)
theorem Vc.block {id:Nat} {c:Code} (h:Vc P n c { Q with ex:=λi t S=>if i=id then Q.nrm t S else Q.ex i t S } t S):Vc P n (.block id c) Q t S:=by
  intro ro hok G a w hr ht
  refine wpIn_block (wpIn_mono (h ro hok G a w hr ht) (λe a w he=>?_))
  cases e with
  | exit id'=>
    simp only[Exit.inBlock]
    obtain⟨t',S',G',r,le,hr',ht'⟩:=he
    simp only at r
    split
    · rename_i hid;rw[if_pos hid] at r;exact⟨t',S',G',r,le,hr',ht'⟩
    · rename_i hid;rw[if_neg hid] at r;exact⟨t',S',G',r,le,hr',ht'⟩
  | normal=>exact he
  | ret=>exact he
  | goto l=>exact he
  | panic c=>exact he
  | outgrown=>exact he
theorem Vc.loop {σ:Type} {c:Code} (I:σ->Prop) (μ:σ->Nat) (T:σ->Env) (Z:σ->St) (x:σ) (hx:EWk t S (T x) (Z x)) (h0:I x)
    (h:∀y,I y->Vc P n c { Q with nrm:=λt S=>∃z,EWk t S (T z) (Z z)/\I z/\μ z<μ y } (T y) (Z y)):Vc P n (.loop c) Q t S:=by
  intro ro hok G a w hr ht
  obtain⟨G0,g1,g2,g3⟩:=hx n G a w hr ht
  refine qh (α:=σ×Ghost) (λx a w=>I x.1/\G.le x.2/\Rel x.2 (Z x.1) w/\TR n x.2 (T x.1) a) (λx=>μ x.1) (x:=(x,G0)) ⟨h0,g1,g2,g3⟩ ?_
  rintro⟨y,G'⟩ a w ⟨hI,hle,hr,ht⟩
  refine wpIn_mono (h y hI ro hok G' a w hr ht) (λe a w he=>?_)
  cases e with
  | normal=>
    obtain⟨t',S',G2,⟨z,z1,z2,z3⟩,le,hr',ht'⟩:=he
    obtain⟨G3,b1,b2,b3⟩:=z1 n G2 a w hr' ht'
    exact⟨(z,G3),⟨z2,(hle.trans le).trans b1,b2,b3⟩,z3⟩
  | exit id=>exact Gg.lift_mono he hle
  | ret=>exact Gg.lift_mono he hle
  | goto l=>exact he
  | panic c=>exact he
  | outgrown=>exact he
theorem Vc.join {σ:Type} {c:Code} {t:Env} {S:St} (J:σ->Prop) (T:σ->Env) (Z:σ->St) (K:Env->St->Prop) (hK:∀y,J y->∀t S,EWk t S (T y) (Z y)->K t S)
    (h:Vc P n c { Q with nrm:=λt S=>∃z,EWk t S (T z) (Z z)/\J z } t S):Vc P n c { Q with nrm:=K } t S:=by
  intro ro hok G a w hr ht
  refine wpIn_mono (h ro hok G a w hr ht) (λe a w he=>?_)
  cases e with
  | normal=>
    obtain⟨t',S',G2,⟨z,z1,z2⟩,le,hr',ht'⟩:=he
    exact⟨t',S',G2,hK z z2 _ _ z1,le,hr',ht'⟩
  | exit id=>exact he
  | ret=>exact he
  | goto l=>exact he
  | panic c=>exact he
  | outgrown=>exact he
def Wl (P:Program) (n:Nat) (ops l:List Oper) (K:Env->St->Prop) (t:Env) (S:St):Prop:=
  (∀o∈l,∀d,o.dst=some d->d<n)->∀(ro:Option Nat) (G:Ghost) (a:Act) (w:World) (Q:Exit->Act->World->Prop),Rel G S w->TR n G t a->(∀a w,lift n G K a w->Q .normal a w)->wpListIn (fen ro) 0 P ops.toArray Q l a w
variable {ops rest:List Oper} {K:Env->St->Prop} {rg:Nat} {d:Option Nat} {op:Op} {ty:TypeId} {pos:String} {after:Array Edge}
theorem Wl.wk {l:List Oper} {t':Env} {S':St} (hw:EWk t S t' S') (h:Wl P n ops l K t' S'):Wl P n ops l K t S:=λhok ro G a w Q hr ht hQ=>
  let ⟨G',a1,a2,a3⟩:=hw n G a w hr ht
  h hok ro G' a w Q a2 a3 (λa w hl=>hQ a w (Gg.lift_mono hl a1))
theorem Wl.nil (h:K t S):Wl P n ops [] K t S:=λ_ _ G a w _ hr ht hQ=>hQ a w ⟨t,S,G,h,Ghost.le.refl G,hr,ht⟩
theorem Wl.step {o:Oper} (rg:Nat) (hv:vop P rg o t S (λv S'=>Wl P n ops rest K (bX t o.dst v) S')) (hg:o.guard=none):Wl P n ops (o :: rest) K t S:=by
  intro hok ro G a w Q hr ht hQ
  have hdo:=hok o (by simp)
  have hok2:∀o∈rest,∀d,o.dst=some d->d<n:=λo ho=>hok o (by simp[ho])
  unfold wpListIn
  rw[if_pos (by simp[Region.wanted,hg])]
  refine(gh hv ro G a w _ Q hr ht (λv av S' G' w' hk hle hr' hav=>?_))
  exact hk hok2 ro G' _ w' Q hr' ((ht.mono hle).put hdo hav) (λa w hl=>hQ a w (Gg.lift_mono hl hle))
theorem Wl.cons (rg:Nat) (h:vo P rg d op t S (λv S'=>Wl P n ops rest K (bX t d v) S')):Wl P n ops (⟨d,op,ty,pos,after,none⟩ :: rest) K t S:=Wl.step rg h rfl
theorem Wl.guard {j g:Nat} {want b:Bool} (hd:(ops[j]?).bind (·.dst)=some g) (hb:t g = .bool b)
    (h1:b=want->Wl P n ops (⟨d,op,ty,pos,after,none⟩ :: rest) K t S) (h2:b = !want->Wl P n ops rest K (bX t d (.tuple [])) S):Wl P n ops (⟨d,op,ty,pos,after,some (j,want)⟩ :: rest) K t S:=by
  intro hok ro G a w Q hr ht hQ
  have hy:=sw ht hd hb
  have hw:Region.wanted ⟨d,op,ty,pos,after,some (j,want)⟩ (yielded ops.toArray a.tmps)=(b == want):=by simp only[Region.wanted,hy];cases b<;>cases want<;>rfl
  by_cases hbw:b=want
  · have:=h1 hbw (λo ho d hd=>by
      rcases List.mem_cons.1 ho with e | e
      · subst e;exact hok _ List.mem_cons_self d hd
      · exact hok o (by simp[e]) d hd) ro G a w Q hr ht hQ
    unfold wpListIn at this ⊢
    rw[if_pos (by rw[hw];simp[hbw])]
    rw[if_pos (by simp[Region.wanted])] at this
    exact this
  · unfold wpListIn
    rw[if_neg (by rw[hw];simp[hbw])]
    have hbn:b = !want:=by cases b<;>cases want<;>simp_all
    exact⟨λ_ _=>trivial,h2 hbn (λo ho=>hok o (by simp[ho])) ro G _ w Q hr (ht.put (hok _ List.mem_cons_self) (VR.undef G)) hQ⟩
theorem Wl.guardU {j g:Nat} {want:Bool} (hd:(ops[j]?).bind (·.dst)=some g) (hb:t g = .tuple []) (h2:Wl P n ops rest K (bX t d (.tuple [])) S):Wl P n ops (⟨d,op,ty,pos,after,some (j,want)⟩ :: rest) K t S:=by
  intro hok ro G a w Q hr ht hQ
  have h1:=ht.2.2 g
  rw[hb] at h1
  have hy:yielded ops.toArray a.tmps j=none:=by
    generalize hv:a.tmps.getD g undef=v at h1
    cases h1 with
    | tuple _ xs q1 _=>
    unfold yielded
    simp only[List.getElem?_toArray,hd]
    rw[Array.getD_eq_getD_getElem?] at hv
    cases hg:a.tmps[g]? with
    | none=>simp[hg]
    | some x=>rw[hg] at hv;simp at hv;subst hv;simp[hg]
  unfold wpListIn
  rw[if_neg (by simp[Region.wanted,hy])]
  exact⟨λ_ _=>trivial,h2 (λo ho=>hok o (by simp[ho])) ro G _ w Q hr (ht.put (hok _ List.mem_cons_self) (VR.undef G)) hQ⟩
theorem Vc.region {id:Nat} {l:List Oper} (h:Wl P n l l Q.nrm t S):Vc P n (.region id l.toArray false) Q t S:=by
  intro ro hok G a w hr ht
  refine wpIn_region_list ?_
  have hd:∀o∈l,∀d,o.dst=some d->d<n:=λo ho d hd=>by
    have:=Array.all_eq_true_iff_forall_mem.1 hok o (by simpa using ho)
    simpa[hd] using this
  have:=h hd ro G a w (Q.lift n G) hr ht (λa w hl=>hl)
  simpa using this
theorem Vc.drawn (hm:P.follows .mixedOrders=true) {id:Nat} {l:List Oper} (rg:Nat) (us:Nat->CR2) (hok:fk n l=true) (h:vdT P rg us l l 0 [] t S Q.nrm):Vc P n (.region id l.toArray true) Q t S:=by
  intro ro _ G a w hr ht
  exact wpIn_region_any hm (vG rg us hok h ro G a _ (Q.lift n G) (hr.drawn _) ht (λa w hl=>hl))
end
theorem wd {P:Program} {f:FuncId} {fn:Func} {c:Code} {as:List AV} {S:St} {R:AV->St->Prop} {n:Nat} {rs:List ResultVar} (hf:P.funcs[f]? = some fn) (hb:fn.body=some c)
    (hn:fn.ntmps=n) (hrs:fn.results=rs.toArray) (hok:(kQ P f && fp false n c && decide (as.length<=n))=true)
    (h:∀rg,(∀k,S rg k=none)->Vc P n c ⟨pE P rs R,λ_ _ _=>False,pE P rs R⟩ (args as) S):Ctr P f as S R:=by
  subst hn
  simp only[Bool.and_eq_true,decide_eq_true_eq] at hok
  obtain⟨⟨hc,hcode⟩,hlen⟩:=hok
  refine⟨hc,λG w vs hr hvs=>?_⟩
  obtain⟨rg,hrg⟩:=hr.freshRegion
  let G1:Ghost:={ G with base:=w.heap.size }
  have hr1:Rel G1 S w:=hr.turn rfl rfl rfl (grownRefl w) (λb e=>by cases e) hr.below.2.1 (Nat.le_refl _)
  have hsb:G.sb G1:=⟨λ_ _ _ e=>e,λ_ _ _ _ e=>e⟩
  have ht:TR fn.ntmps G1 (args as) { tmps:=vs++Array.replicate (fn.ntmps-vs.size) undef,defers:=[] }:=by
    refine⟨kX.nil G1,by
      have h0:vs.size=as.length:=hvs.1
      show(vs++Array.replicate (fn.ntmps-vs.size) undef).size=fn.ntmps
      simp only[Array.size_append,Array.size_replicate];omega,λi=>?_⟩
    unfold args
    rw[Array.getD_eq_getD_getElem?,List.getD_eq_getElem?_getD]
    by_cases hi:i<as.length
    · have hi':i<vs.size:=by have h0:vs.size=as.length:=hvs.1;omega
      rw[Array.getElem?_append_left hi',List.getElem?_eq_getElem hi,Array.getElem?_eq_getElem hi']
      exact(hvs.2 i hi hi').re hsb
    · rw[List.getElem?_eq_none om]
      exact .junk _
  have hV:=h rg hrg none hcode G1 _ w hr1 ht
  refine callsIn_wide.1 (callsIn_of_wp_marks (F:=Fence.wide) (n:=0) hf hb trivial (wpIn_mono hV (λe a w' he=>?_)))
  have fin:lift fn.ntmps G1 (pE P rs R) a w'->LeavesInM Fence.wide 0 P fn a.tmps (λe w'=>∃v av S' G',e = .returned v/\R av S'/\G.le G'/\Rel G' S' w'/\VR G' av v) a.defers .returning w':=by
    rintro⟨t',S',G1',hk,hle1,hr1',ht1'⟩
    have out:∀w'' (G':Ghost),G.le G'->G'.imm=G1'.imm->G'.loc=G1'.loc->Rel G' S' w''->LeavesInM Fence.wide 0 P fn a.tmps (λe w'=>∃v av S' G',e = .returned v/\R av S'/\G.le G'/\Rel G' S' w'/\VR G' av v) [] .returning w'':=by
      intro w' G' hle q1 q2 hr'
      have hsb':G1'.sb G':=⟨λb o u e=>by rw[q1];exact e,λr k g L e=>by rw[q2];exact e⟩
      have ht':TR fn.ntmps G' t' { tmps:=a.tmps,defers:=[] }:=⟨kX.nil G',ht1'.2.1,λi=>(ht1'.2.2 i).re hsb'⟩
      show ∃v,_
      have hrs':fn.results.toList=rs:=by rw[hrs]
      obtain⟨xs,vs',h1,h2,h3,h4⟩:=g_ hr' ht' rs _ hk
      have hrun:(results fn a.tmps).run P w' = .ok (if h:xs.length=1 then xs[0] else .tuple xs.toArray) w':=by
        simp only[results,Array.mapM_eq_mapM_toList,Sem.run_bind,Sem.run_map,hrs']
        erw[h1]
        simp
      have hV:VR G' (ua vs') (if h:xs.length=1 then xs[0] else .tuple xs.toArray):=by
        by_cases h1:xs.length=1
        · rw[dif_pos h1]
          match vs',h3,h4 with
          | [v],_,h4=>exact h4 0 (by simp) om
          | [],h3,_=>exact absurd h3 (by simp only[List.length_nil];omega)
          | _ :: _ :: _,h3,_=>exact absurd h3 (by simp only[List.length_cons];omega)
        · rw[dif_neg h1]
          have:ua vs' = .tuple vs':=by
            match vs',h3 with
            | [v],h3=>exact absurd h3 (by simp only[List.length_cons,List.length_nil];omega)
            | [],_=>rfl
            | _ :: _ :: _,_=>rfl
          rw[this]
          exact .tuple _ _ (by simpa using h3) (λi h h'=>by simpa using h4 i h (by simpa using h'))
      obtain⟨v2,S2,G2,hR,b1,b2,b3⟩:=h2 G' w' _ hr' hV
      exact⟨_,hrun,_,v2,S2,G2,rfl,hR,hle.trans b1,b2,b3⟩
    have hall:∀(l:List Deferred) (w':World) (K:Ghost),K.init=G1'.init->K.imm=G1'.imm->K.loc=G1'.loc->K.base=G1'.base->(∀b,G.dfr b->K.dfr b)->Rel K S' w'->kX K l->LeavesInM Fence.wide 0 P fn a.tmps (λe w'=>∃v av S' G',e = .returned v/\R av S'/\G.le G'/\Rel G' S' w'/\VR G' av v) l .returning w':=by
      intro l
      induction l with
      | nil=>
        intro w' K k1 k2 k3 k4 k5 hK _
        let G':Ghost:={ K with base:=G.base,dfr:=λb=>K.dfr b/\b<w.heap.size }
        refine out w' G' ⟨⟨k1.trans hle1.init.1,λb hb=>⟨k5 b hb,(Array.getElem?_eq_some_iff.1 (hr.below.2.1 b hb)).1⟩,rfl⟩,λb o u e=>by show K.imm b o=some u;rw[k2];exact hle1.imm b o u e,λr k g L e=>by show K.loc r k g=some L;rw[k3];exact hle1.loc r k g L e⟩ k2 k3 (hK.turn rfl rfl rfl (grownRefl w') (λb e=>by cases e) (λb hb=>hK.below.2.1 b hb.1) ?_)
        have:=hK.below.2.2
        rw[k4,hle1.init.2.2] at this
        exact Nat.le_trans hr.below.2.2 this
      | cons d l ih=>
        intro w' K k1 k2 k3 k4 k5 hK hm
        obtain⟨D,rfl,hD1,hD2⟩:=hm.2 d List.mem_cons_self
        have hD:=hK.below.2.1 D hD2
        have hDw:w.heap.size<=D:=by rw[k4,hle1.init.2.2] at hD1;exact hD1
        have hne:∀e∈l,e≠tH D:=λe he hc=>(List.nodup_cons.1 hm.1).1 (hc▸he)
        refine⟨by simp,.inl ⟨D,_,rfl,run_takeDeferred hD,ih _ { K with dfr:=λb=>K.dfr b/\b≠D } k1 k2 k3 k4 (λb hb=>⟨k5 b hb,λhc=>?_⟩) (hK.turn rfl rfl rfl (grownBy_putObj' w' D (.deferred none)) (λb e=>?_) (λb hb=>?_) ?_) ⟨(List.nodup_cons.1 hm.1).2,λe he=>?_⟩⟩⟩
        · have:=(Array.getElem?_eq_some_iff.1 (hr.below.2.1 b hb)).1
          omega
        · cases e
          exact⟨by have:=hr.below.1.size;rw[k1,hle1.init.1];show G.init.heap.size<=D;omega,_,hD⟩
        · exact(World.putObj_heap_other hb.2).trans (hK.below.2.1 b hb.1)
        · rw[World.putObj_size];exact hK.below.2.2
        · obtain⟨E,rfl,hE1,hE2⟩:=hm.2 e (List.mem_cons_of_mem _ he)
          exact⟨E,rfl,hE1,hE2,λhc=>hne _ he (by rw[hc])⟩
    exact hall a.defers w' G1' rfl rfl rfl rfl (λb hb=>hle1.init.2.1 b hb) hr1' ht1'.1
  cases e with
  | normal=>exact fin he
  | ret=>exact fin he
  | exit id=>obtain⟨_,_,_,h,_⟩:=he;exact h.elim
  | goto l=>exact he.elim
  | panic c=>exact he.elim
  | outgrown=>exact he.elim
end Go.Gg
namespace Go.Gg
open Go.RowKit (Below)
def bk {σ:Type} (x:σ) (body:σ->(σ->Prop)->Prop):Prop:=∃(I:σ->Prop) (μ:σ->Nat),I x/\∀y,I y->body y (λz=>I z/\μ z<μ y)
def c6 {α:Type} (f:(α->Prop)->Prop) (k:α->Prop):Prop:=∃J:α->Prop,f J/\∀x,J x->k x
def ah (c:Bool) (a b:Prop):Prop:=(c=true->a)/\(c=false->b)
def eq {α:Type} (f:(α->Prop)->Prop) (k:α->Prop):Prop:=∃r,f (λx=>x=r)/\k r
def gX {α:Type} (e:α) (k:α->Prop):Prop:=∀v,v=e->k v
def lz (b:Nat) (n m:Int):Prop:=0<=n/\n<=m/\(b:Int)*m<=281474976710656/\m<=9223372036854775807
def rng (n:Int):Prop:=-9223372036854775808<=n/\n<=9223372036854775807
def at' {α:Type} [Inhabited α] (l:List α) (i:Int):α:=l.getD i.toNat default
def b6 {α:Type} (l:List α) (i:Int) (x:α):List α:=l.set i.toNat x
def eh {α:Type} (l:List α) (i j:Int):List α:=(l.drop i.toNat).take (j.toNat-i.toNat)
def ek {α:Type} (n:Int) (x:α):List α:=List.replicate n.toNat x
abbrev eL {α:Type} (e:α->AV) (l:List α):AV:=.list (l.map e)
def aW (T:TypeId):Option Int->AV
  | none=>.niface
  | some n=>.iface T (.int .i64 n)
theorem iK {a b:Nat} (h:a≠b):Nat.beq a b=false:=by
  cases e:Nat.beq a b with
  | false=>rfl
  | true=>exact absurd (Nat.eq_of_beq_eq_true e) h
theorem rj {a b:Nat} (h:Nat.beq a b=false):a≠b:=by
  rintro rfl
  simp at h
abbrev cS:=List (Nat×GObj×Nat)
def lkp:cS->Nat->Option (GObj×Nat)
  | [],_=>none
  | (k,x) :: l,j=>bif Nat.beq j k then some x else lkp l j
def dlt:cS->Nat->cS
  | [],_=>[]
  | (k,x) :: l,j=>bif Nat.beq j k then dlt l j else (k,x) :: dlt l j
def stL (S0:St) (rg:Nat) (l:cS):St:=λr k=>if r=rg then lkp l k else S0 r k
theorem fM {S0:St} {rg:Nat} {l:cS} {k:Nat}:stL S0 rg l rg k=lkp l k:=by simp[stL]
theorem mS {S0:St} {rg r:Nat} {l:cS} {k:Nat} (h:r≠rg):stL S0 rg l r k=S0 r k:=by simp[stL,h]
theorem eK {S0:St} {rg k g:Nat} {l:cS} {o:GObj}:(stL S0 rg l).set rg k o g=stL S0 rg ((k,o,g) :: l):=by
  funext r k'
  simp only[St.set,stL,lkp]
  by_cases h:r=rg
  · subst h
    by_cases h':k'=k
    · subst h';simp
    · simp[h',iK h']
  · simp[h]
theorem uK {l:cS} {k j:Nat}:lkp (dlt l k) j=bif Nat.beq j k then none else lkp l j:=by
  induction l with
  | nil=>cases Nat.beq j k<;>rfl
  | cons p l ih=>
    obtain⟨a,x⟩:=p
    simp only[dlt,lkp]
    by_cases h:k=a
    · subst h
      have:Nat.beq k k=true:=by simp
      rw[this,cond_true,ih]
      cases Nat.beq j k<;>rfl
    · have:Nat.beq k a=false:=iK h
      rw[this,cond_false,lkp,ih]
      by_cases h':j=a
      · subst h'
        have:Nat.beq j k=false:=iK (Ne.symm h)
        simp[this]
      · have:Nat.beq j a=false:=iK h'
        rw[this,cond_false,cond_false]
theorem qX {S0:St} {rg k:Nat} {l:cS}:(stL S0 rg l).del rg k=stL S0 rg (dlt l k):=by
  funext r k'
  simp only[St.del,stL,uK]
  by_cases h:r=rg
  · subst h
    by_cases h':k'=k
    · subst h';simp
    · simp[h',iK h']
  · simp[h]
theorem oN {S:St} {rg:Nat} (h:∀k,S rg k=none):stL S rg []=S:=by
  funext r k
  simp only[stL,lkp]
  split
  · rename_i e;subst e;rw[h]
  · rfl
theorem rI {S:St} {rg:Nat} {l:cS} (h:∀k,S rg k=none):(stL S rg l).clear rg=S:=by
  funext r k
  simp only[stL,St.clear]
  split
  · rename_i e;subst e;rw[h]
  · rfl
def n9 (l:cS):cS->Prop
  | []=>True
  | (k,x) :: m=>lkp l k=some x/\n9 l m
theorem n9.sub {S0:St} {rg:Nat} {l m:cS} (h:n9 l m):(stL S0 rg m).sub (stL S0 rg l):=by
  intro r k x hx
  simp only[stL] at hx ⊢
  split
  · rename_i e
    rw[if_pos e] at hx
    induction m with
    | nil=>simp[lkp] at hx
    | cons p m ih=>
      obtain⟨j,y⟩:=p
      simp only[lkp] at hx
      by_cases hk:k=j
      · subst hk
        have:Nat.beq k k=true:=by simp
        rw[this,cond_true] at hx
        rw[<-hx]
        exact h.1
      · have:Nat.beq k j=false:=iK hk
        rw[this,cond_false] at hx
        exact ih h.2 hx
  · rename_i e;rw[if_neg e] at hx;exact hx
def aR:List (Nat×AV)->Env
  | []=>λ_=>.junk
  | (k,v) :: l=>λi=>bif Nat.beq i k then v else aR l i
def Fit (t:Env):List (Nat×AV)->Prop
  | []=>True
  | (k,v) :: l=>VW (t k) v/\Fit t l
theorem Fit.vw {t:Env}:∀ {l:List (Nat×AV)},Fit t l->∀i,VW (t i) (aR l i)
  | [],_,i=>VW.junk _
  | (k,v) :: l,h,i=>by
    simp only[aR]
    by_cases hi:i=k
    · subst hi
      have:Nat.beq i i=true:=by simp
      rw[this]
      exact h.1
    · have:Nat.beq i k=false:=iK hi
      rw[this]
      exact h.2.vw i
theorem am {t:Env} {S0:St} {rg:Nat} {l m:cS} {es:List (Nat×AV)} (hf:Fit t es) (hs:n9 l m):EWk t (stL S0 rg l) (aR es) (stL S0 rg m):=λ_ G _ _ hr ht=>
  ⟨G,Ghost.le.refl G,hr.sub hs.sub,ht.1,ht.2.1,λi=>hf.vw i G _ (ht.2.2 i)⟩
theorem aU {t:Env} {S0:St} {rg k g kk:Nat} {xs:List AV} {l m:cS} {es:List (Nat×AV)} (hS:lkp l k=some (.arr kk xs,g)) (hf:Fit (λi=>frz rg k g kk xs (t i)) es) (hs:n9 (dlt l k) m) :
    EWk t (stL S0 rg l) (aR es) (stL S0 rg m):=by
  have h1:=EWk.freezeAll (t:=t) (S:=stL S0 rg l) (r:=rg) (by rw[fM];exact hS)
  rw[qX] at h1
  exact h1.trans (am hf hs)
theorem a8 {α:Type} {r k g kk n:Nat} {e:α->AV} {xs:List α} (h:n=xs.length):VW (frz r k g kk (xs.map e) (.sl kk r k g 0 n)) (eL e xs):=by
  have:frz r k g kk (xs.map e) (.sl kk r k g 0 n)=eL e xs:=by subst h;simp[frz,o6,n6,eL,List.take_of_length_le]
  rw[this];exact VW.refl _
theorem ia {r k g kk off n k' g' kk':Nat} {xs:List AV} (h:Nat.beq k' k=false):VW (frz r k g kk xs (.sl kk' r k' g' off n)) (.sl kk' r k' g' off n):=by
  have h':k'≠k:=rj h
  have:frz r k g kk xs (.sl kk' r k' g' off n) = .sl kk' r k' g' off n:=by simp[frz,o6,n6,h']
  rw[this];exact VW.refl _
theorem Vc.mat {P:Program} {n:Nat} {c:Code} {Q:AK} {t:Env} {S0:St} {rg:Nat} {l:cS} (d k kk:Nat) (h0:t d = .nil) (hk:0<kk) (h:∀g,Vc P n c Q (upd t d (.sl kk rg k g 0 0)) (stL S0 rg ((k,.arr kk [],g) :: l))):Vc P n c Q t (stL S0 rg l):=by
  intro ro hok G a w hr ht
  obtain⟨g,G',q1,q2,q3⟩:=hr.mat rg k kk hk
  rw[eK] at q2
  refine wpIn_mono (h g ro hok G' a w q2 ⟨ht.1.mono q1,ht.2.1,λi=>?_⟩) (λ_ _ _ he=>AK.lift_mono q1 he)
  unfold upd
  split
  · rename_i e
    subst e
    have:=ht.2.2 i
    rw[h0] at this
    generalize a.tmps.getD i undef=x at this ⊢
    cases this
    exact q3
  · exact(ht.2.2 i).mono q1
theorem aL {P:Program} {f:FuncId} {fn:Func} {c:Code} {as:List AV} {S:St} {R:AV->St->Prop} {n:Nat} {rs:List ResultVar} (hf:P.funcs[f]? = some fn) (hb:fn.body=some c)
    (hn:fn.ntmps=n) (hrs:fn.results=rs.toArray) (hok:(kQ P f && fp false n c && decide (as.length<=n))=true)
    (h:∀rg,(∀k,S rg k=none)->Vc P n c ⟨pE P rs R,λ_ _ _=>False,pE P rs R⟩ (args as) (stL S rg [])):Ctr P f as S R:=
  wd hf hb hn hrs hok (λrg hrg=>by rw[<-oN hrg];rw[oN hrg];have:=h rg hrg;rw[oN hrg] at this;exact this)
theorem aJ {R:AV->St->Prop} {v v':AV} {S:St} {rg:Nat} {l:cS} (hrg:∀k,S rg k=none) (hv:VW v v') (h:R v' S):cX R v (stL S rg l):=by
  refine cX.drop rg ?_
  rw[rI hrg]
  exact cX.wk (Wk.of hv) (cX.now h)
theorem bK {R:AV->St->Prop} {v v':AV} {S:St} {rg k g kk:Nat} {xs:List AV} {l:cS} (hS:lkp l k=some (.arr kk xs,g)) (hv:VW (frz rg k g kk xs v) v') (h:cX R v' (stL S rg (dlt l k))):cX R v (stL S rg l):=by
  refine cX.wk (Wk.freeze (by rw[fM];exact hS)) ?_
  rw[qX]
  exact cX.wk (Wk.of hv) h
def VWL:List AV->List AV->Prop
  | [],[]=>True
  | a :: l,b :: m=>VW a b/\VWL l m
  | _,_=>False
theorem VWL.len:∀ {l m:List AV},VWL l m->m.length=l.length
  | [],[],_=>rfl
  | _ :: _,_ :: _,h=>by simp[h.2.len]
theorem VWL.at:∀ {l m:List AV},VWL l m->∀i (h1:i<l.length) (h2:i<m.length),VW l[i] m[i]
  | a :: l,b :: m,h,0,_,_=>h.1
  | a :: l,b :: m,h,i+1,h1,h2=>h.2.at i (by simpa using h1) (by simpa using h2)
theorem VW.aggL {l m:List AV} (h:VWL l m):VW (.agg l) (.agg m):=VW.agg h.len (λi a b=>h.at i a b)
theorem VW.tupL {l m:List AV} (h:VWL l m):VW (.tuple l) (.tuple m):=VW.tuple h.len (λi a b=>h.at i a b)
theorem VW.nilL {α:Type} {e:α->AV}:VW .nil (eL e []):=VW.nil
def exB (id:Nat) (nrm:Env->St->Prop) (ex:Nat->Env->St->Prop):Nat->Env->St->Prop:=λi t S=>if i=id then nrm t S else ex i t S
theorem p_ {id:Nat} {nrm:Env->St->Prop} {ex:Nat->Env->St->Prop} {t:Env} {S:St} (h:nrm t S):exB id nrm ex id t S:=by unfold exB;rw[if_pos rfl];exact h
theorem wc {id i:Nat} {nrm:Env->St->Prop} {ex:Nat->Env->St->Prop} {t:Env} {S:St} (hi:Nat.beq i id=false) (h:ex i t S):exB id nrm ex i t S:=by unfold exB;rw[if_neg (rj hi)];exact h
section
variable {P:Program} {n rg:Nat} {d:Option Nat} {t:Env} {S S0:St} {L:cS} {K:AV->St->Prop} {ty:TypeId} {x y i:Operand} {v a:AV} {k:IntKind} {m q:Int} {T T' e:TypeId}
theorem ak (hx:ev t x=v) (h:K v S):vo P rg d (.move x) t S K:=by rw[vo_move,hx];exact h
theorem aO (hx:ev t x=v) (h:K v S):vo P rg d (.assign x) t S K:=by rw[vo_assign,hx];exact h
theorem jj (hx:ev t x = .int k m) (hy:ev t y = .int k q) (h:K (.int k (k.wrap (m+q))) S):vo P rg d (.binOp .add T x y T') t S K:=by rw[vo_bin,hx,hy];exact⟨rfl,h⟩
theorem jN (hx:ev t x = .int k m) (hy:ev t y = .int k q) (h:K (.int k (k.wrap (m-q))) S):vo P rg d (.binOp .sub T x y T') t S K:=by rw[vo_bin,hx,hy];exact⟨rfl,h⟩
theorem pP (hx:ev t x = .int k m) (hy:ev t y = .int k q) (h:K (.int k (k.wrap (m*q))) S):vo P rg d (.binOp .mul T x y T') t S K:=by rw[vo_bin,hx,hy];exact⟨rfl,h⟩
theorem fD (h:rng m):IntKind.i64.wrap m=m:=wrap_i64_id h.1 h.2
theorem aC (hx:ev t x = .int .i64 m) (hy:ev t y = .int .i64 q) (hb:rng (m+q)) (h:K (.int .i64 (m+q)) S):vo P rg d (.binOp .add T x y T') t S K:=jj hx hy (by rw[fD hb];exact h)
theorem bC (hx:ev t x = .int .i64 m) (hy:ev t y = .int .i64 q) (hb:rng (m-q)) (h:K (.int .i64 (m-q)) S):vo P rg d (.binOp .sub T x y T') t S K:=jN hx hy (by rw[fD hb];exact h)
theorem qx (hx:ev t x = .int .i64 m) (hy:ev t y = .int .i64 q) (hb:rng (m*q)) (h:K (.int .i64 (m*q)) S):vo P rg d (.binOp .mul T x y T') t S K:=pP hx hy (by rw[fD hb];exact h)
theorem rh (hx:ev t x = .int k m) (hy:ev t y = .int k q) (hb:q≠0) (h:K (.int k (k.wrap (m.tdiv q))) S):vo P rg d (.binOp .quo T x y T') t S K:=by rw[vo_bin,hx,hy];exact⟨rfl,hb,h⟩
theorem vY (hx:ev t x = .int .i64 m) (hy:ev t y = .int .i64 q) (hb:q≠0/\rng (m.tdiv q)) (h:K (.int .i64 (m.tdiv q)) S):vo P rg d (.binOp .quo T x y T') t S K:=rh hx hy hb.1 (by rw[fD hb.2];exact h)
theorem vg (hx:ev t x = .int k m) (hy:ev t y = .int k q) (hb:q≠0) (h:K (.int k (m.tmod q)) S):vo P rg d (.binOp .rem T x y T') t S K:=by rw[vo_bin,hx,hy];exact⟨rfl,hb,h⟩
theorem tw (hx:ev t x = .int k m) (hy:ev t y = .int k q) (h:K (.int k (bits .and k m q)) S):vo P rg d (.binOp .and T x y T') t S K:=by rw[vo_bin,hx,hy];exact⟨rfl,h⟩
theorem oW (hx:ev t x = .int k m) (hy:ev t y = .int k q) (h:K (.int k (bits .or k m q)) S):vo P rg d (.binOp .or T x y T') t S K:=by rw[vo_bin,hx,hy];exact⟨rfl,h⟩
theorem cu (hx:ev t x = .int k m) (hy:ev t y = .int k q) (h:K (.bool (m == q)) S):vo P rg d (.binOp .eql T x y T') t S K:=by rw[vo_bin,hx,hy];exact⟨rfl,h⟩
theorem dD (hx:ev t x = .int k m) (hy:ev t y = .int k q) (h:K (.bool (m != q)) S):vo P rg d (.binOp .neq T x y T') t S K:=by rw[vo_bin,hx,hy];exact⟨rfl,h⟩
theorem bc (hx:ev t x = .int k m) (hy:ev t y = .int k q) (h:K (.bool (decide (m<q))) S):vo P rg d (.binOp .lss T x y T') t S K:=by rw[vo_bin,hx,hy];exact⟨rfl,h⟩
theorem nk (hx:ev t x = .int k m) (hy:ev t y = .int k q) (h:K (.bool (decide (m<=q))) S):vo P rg d (.binOp .leq T x y T') t S K:=by rw[vo_bin,hx,hy];exact⟨rfl,h⟩
theorem eb (hx:ev t x = .int k m) (hy:ev t y = .int k q) (h:K (.bool (decide (q<m))) S):vo P rg d (.binOp .gtr T x y T') t S K:=by rw[vo_bin,hx,hy];exact⟨rfl,h⟩
theorem eo (hx:ev t x = .int k m) (hy:ev t y = .int k q) (h:K (.bool (decide (q<=m))) S):vo P rg d (.binOp .geq T x y T') t S K:=by rw[vo_bin,hx,hy];exact⟨rfl,h⟩
theorem ji {k':IntKind} (hx:ev t x = .int k m) (hy:ev t y = .int k' q) (hb:0<=q/\q<=k.bits) (h:K (.int k (k.wrap (m*2^q.toNat))) S):vo P rg d (.binOp .shl T x y T') t S K:=by rw[vo_bin,hx,hy];exact⟨hb.1,hb.2,h⟩
theorem vX {k':IntKind} (hx:ev t x = .int .i64 m) (hy:ev t y = .int k' q) (hb:(0<=q/\q<=64)/\rng (m*2^q.toNat)) (h:K (.int .i64 (m*2^q.toNat)) S):vo P rg d (.binOp .shl T x y T') t S K:=ji hx hy hb.1 (by rw[fD hb.2];exact h)
theorem eQ {k':IntKind} (hx:ev t x = .int k m) (hy:ev t y = .int k' q) (hb:0<=q/\q<=k.bits) (h:K (.int k (m / 2^q.toNat)) S):vo P rg d (.binOp .shr T x y T') t S K:=by rw[vo_bin,hx,hy];exact⟨hb.1,hb.2,h⟩
theorem tu {p r:Bool} (hT:td P T = .bool) (hx:ev t x = .bool p) (hy:ev t y = .bool r) (h:K (.bool (p == r)) S):vo P rg d (.binOp .eql T x y T') t S K:=by rw[vo_bin,hx,hy];exact⟨hT,h⟩
theorem qw {p r:Bool} (hT:td P T = .bool) (hx:ev t x = .bool p) (hy:ev t y = .bool r) (h:K (.bool (p != r)) S):vo P rg d (.binOp .neq T x y T') t S K:=by rw[vo_bin,hx,hy];exact⟨hT,h⟩
theorem fr {E:TypeId} {o:Option Int} (hT:td P T = .iface) (hx:ev t x=aW E o) (hy:ev t y = .niface) (hc:(gf x || gf y)=true) (h:K (.bool o.isNone) S):vo P rg d (.binOp .eql T x y T') t S K:=by
  rw[vo_bin,hx,hy]
  cases o with
  | none=>exact⟨hT,hc,h⟩
  | some n=>exact⟨hT,h⟩
theorem gQ {E:TypeId} {o:Option Int} (hT:td P T = .iface) (hx:ev t x=aW E o) (hy:ev t y = .niface) (hc:(gf x || gf y)=true) (h:K (.bool o.isSome) S):vo P rg d (.binOp .neq T x y T') t S K:=by
  rw[vo_bin,hx,hy]
  cases o with
  | none=>exact⟨hT,hc,h⟩
  | some n=>exact⟨hT,h⟩
theorem ea {b:Bool} (hx:ev t x = .bool b) (h:K (.bool (!b)) S):vo P rg d (.unOp .not T x) t S K:=by rw[vo_un,hx];exact h
theorem vk (hx:ev t x = .int k m) (h:K (.int k (k.wrap (0-m))) S):vo P rg d (.unOp .neg T x) t S K:=by rw[vo_un,hx];exact h
theorem v4 (hx:ev t x = .int .i64 m) (hb:rng (-m)) (h:K (.int .i64 (-m)) S):vo P rg d (.unOp .neg T x) t S K:=vk hx (by rw[Int.zero_sub,fD hb];exact h)
theorem bb {k':IntKind} {s:TypeId} (hs:td P s = .int k) (hT:td P T = .int k') (hx:ev t x = .int k m) (h:K (.int k' (k'.wrap m)) S):vo P rg d (.convert s T x) t S K:=by rw[vo_conv,hx,hT,hs];exact h
theorem bW (hT:(match td P T with | .iface | .other=>False | _=>True)) (hx:ev t x=v) (h:K (.iface T v) S):vo P rg d (.makeInterface T x) t S K:=by rw[vo_iface,hx];exact⟨hT,h⟩
theorem aj {vs:List AV} {i:Nat} (hx:ev t x = .tuple vs) (hi:Nat.ble (i+1) vs.length=true) (hv:vs.getD i .junk=v) (h:K v S):vo P rg d (.extract x i) t S K:=by rw[vo_extract,hx];exact⟨Nat.le_of_ble_eq_true hi,by rw[hv];exact h⟩
theorem qk {P:Program} {T:TypeId} {cs:List AV} {S:St} {K:AV->Prop}:eI P T (.list cs) S K=kY P T (.list cs) K:=by unfold eI;rfl
theorem sI {P:Program} {T:TypeId} {kk r k g off c:Nat} {S:St} {K:AV->Prop}:eI P T (.sl kk r k g off c) S K=kY P T (.sl kk r k g off c) K:=by unfold eI;rfl
theorem aB {α:Type} {enc:α->AV} {l:List α} (hT:td P T = .slice e) (hx:ev t x=eL enc l) (h:K (.int .i64 l.length) S):vo P rg d (.call { callee:=.builtin .len,args:=#[x],argTypes:=#[T] }) t S K:=by rw[vo_len,hx,show eI P T (eL enc l) S _=_ from qk,kY,hT];simpa using h
theorem dM {kk r k g off c:Nat} (hT:td P T = .slice e) (hx:ev t x = .sl kk r k g off c) (h:K (.int .i64 c) S):vo P rg d (.call { callee:=.builtin .len,args:=#[x],argTypes:=#[T] }) t S K:=by rw[vo_len,hx,sI,kY,hT];exact h
theorem ri {ts:Array TypeId} (hx:ev t x = .int k m) (hy:ev t y = .int k q) (h:K (.int k (max m q)) S):vo P rg d (.call { callee:=.builtin .max,args:=#[x,y],argTypes:=ts }) t S K:=by
  rw[vo_max,hx,hy]
  have:(if m<q then q else m)=max m q:=by split<;>omega
  simp only[this];exact h
theorem wI {ts:Array TypeId} (hx:ev t x = .int k m) (hy:ev t y = .int k q) (h:K (.int k (min m q)) S):vo P rg d (.call { callee:=.builtin .min,args:=#[x,y],argTypes:=ts }) t S K:=by
  rw[vo_min,hx,hy]
  have:(if q<m then q else m)=min m q:=by split<;>omega
  simp only[this];exact h
theorem tv {f:Operand} {xs:List Operand} {ts:Array TypeId} {g:FuncId} {fs caps us:List AV} (hf:ev t f = .fn (.func g) fs caps) (ha:VWL (fs++(xs.map (ev t)++caps)) us) (h:Ctr P g us S K) :
    vo P rg d (.call { callee:=.value f,args:=xs.toArray,argTypes:=ts }) t S K:=by
  rw[vo_call,hf]
  exact Ctr.arg ha.len (λi h1 h2=>ha.at i h1 h2) h
theorem tq {c:Operand} {b:Bool} (hc:ev t c = .bool b) (hv:(bif b then ev t x else ev t y)=v) (h:K v S):vo P rg d (.pick c x y) t S K:=by rw[vo_pick,hc];show K (bif b then ev t x else ev t y) S;rw[hv];exact h
theorem p8 {α:Type} [Inhabited α] {enc:α->AV} {l:List α} {i:Nat} (h:i<l.length):(l.map enc).getD i .junk=enc (l.getD i default):=by
  rw[List.getD_eq_getElem?_getD,List.getD_eq_getElem?_getD];simp[h]
theorem aQ {α:Type} [Inhabited α] {enc:α->AV} {l:List α} {kk:Nat} (hT:td P T = .slice e) (hs:sz P e=kk) (h0:0<kk) (hk:∀z,(enc z).cells.length=kk) (hx:ev t x=eL enc l) (hi:ev t i = .int k m)
    (hb:0<=m/\m<l.length) (h:K (.iptr (enc (at' l m)).cells) S):vo P rg d (.indexAddr T x i) t S K:=by
  rw[vo_indexAddr,hx,hi,dH,hT]
  have hlt:m.toNat<l.length:=om
  have e:(l.map enc).getD m.toNat .junk=enc (at' l m):=p8 hlt
  refine⟨⟨hb.1,by simpa using hb.2⟩,⟨by omega,?_⟩,?_⟩
  · rw[e,hk,hs]
  · rw[e];exact h
theorem tt {kk r k' g off c:Nat} (hT:td P T = .slice e) (hs:sz P e=kk) (h0:0<kk) (hx:ev t x = .sl kk r k' g off c) (hi:ev t i = .int k m) (hb:0<=m/\m<c) (h:K (.ptr r k' g (off+m.toNat) 0) S):vo P rg d (.indexAddr T x i) t S K:=by
  rw[vo_indexAddr,hx,hi,dH,hT]
  exact⟨hb,⟨h0,hs.symm⟩,h⟩
theorem xd {cs:List AV} {fs:List (Nat×TypeId)} {f off:Nat} {et:TypeId} (hT:td P T = .struct fs) (hf:fs.getD f (0,0)=(off,et)) (hlt:Nat.ble (f+1) fs.length=true) (hs:0<sz P et) (hx:ev t x = .iptr cs) (hl:Nat.ble off cs.length=true)
    (h:K (.iptr (cs.drop off)) S):vo P rg d (.fieldAddr T x f) t S K:=by
  rw[vo_fieldAddr,hx,cJ,hT]
  refine⟨Nat.le_of_ble_eq_true hlt,?_,?_,?_⟩
  · rw[hf];exact hs
  · rw[hf];exact Nat.le_of_ble_eq_true hl
  · rw[hf];exact h
theorem wJ {r k g i off0:Nat} {fs:List (Nat×TypeId)} {f off:Nat} {et:TypeId} (hT:td P T = .struct fs) (hf:fs.getD f (0,0)=(off,et)) (hlt:Nat.ble (f+1) fs.length=true) (hs:0<sz P et) (hx:ev t x = .ptr r k g i off0)
    (h:K (.ptr r k g i (off0+off)) S):vo P rg d (.fieldAddr T x f) t S K:=by
  rw[vo_fieldAddr,hx,cJ,hT]
  refine⟨Nat.le_of_ble_eq_true hlt,?_,?_⟩
  · rw[hf];exact hs
  · rw[hf];exact h
theorem aN {cs:List AV} (hs:sz P T=1) (ha:bJ P T=false) (hx:ev t x = .iptr cs) (hl:Nat.ble 1 cs.length=true) (hv:cs.getD 0 .junk=v) (h:K v S):vo P rg d (.load T x) t S K:=by
  rw[vo_load,hx,eH]
  refine⟨⟨by omega,λ_=>hs,by rw[hs];exact Nat.le_of_ble_eq_true hl⟩,?_⟩
  unfold ldv;rw[ha,cond_false,hv];exact h
theorem bL {cs:List AV} {sz':Nat} (hs:sz P T=sz') (h0:0<sz') (ha:bJ P T=true) (hx:ev t x = .iptr cs) (hl:Nat.ble sz' cs.length=true) (hv:AV.agg ((cs.drop 0).take sz')=v) (h:K v S):vo P rg d (.load T x) t S K:=by
  rw[vo_load,hx,eH]
  refine⟨⟨by omega,λhh=>(by rw[ha] at hh;cases hh),by rw[hs];exact Nat.le_of_ble_eq_true hl⟩,?_⟩
  unfold ldv;rw[ha,cond_true,hs,hv];exact h
theorem oX {r k g i off kk sz':Nat} {es:List AV} (hS:S r k=some (.arr kk es,g)) (hs:sz P T=sz') (h0:0<sz') (ha:bJ P T=true\/(bJ P T=false/\sz'=1)) (hx:ev t x = .ptr r k g i off) (hi:i<es.length) (hl:off+sz'<=kk)
    (hv:(bif bJ P T then AV.agg (((es.getD i .junk).cells.drop off).take sz') else (es.getD i .junk).cells.getD off .junk)=v) (h:K v S):vo P rg d (.load T x) t S K:=by
  rw[vo_load,hx,eH]
  simp only[hS]
  refine⟨⟨trivial,hi,by omega,λhh=>?_,by omega⟩,?_⟩
  · rcases ha with ha | ha
    · rw[ha] at hh;cases hh
    · rw[hs];exact ha.2
  · unfold ldv;rw[hs,hv];exact h
end
end Go.Gg
namespace Go.Gg
open Go.RowKit (Below)
theorem vr {v:AV}:VW v v:=VW.refl v
theorem fc {t:Env} {k:Nat} {v:AV} {l:List (Nat×AV)} (h:VW (t k) v) (h':Fit t l):Fit t ((k,v) :: l):=⟨h,h'⟩
theorem fn {t:Env}:Fit t []:=trivial
theorem vl' {a b:AV} {l m:List AV} (h:VW a b) (h':VWL l m):VWL (a :: l) (b :: m):=⟨h,h'⟩
theorem vn:VWL [] []:=trivial
theorem sc {l m:cS} {k:Nat} {x:GObj×Nat} (h:lkp l k=some x) (h':n9 l m):n9 l ((k,x) :: m):=⟨h,h'⟩
theorem sn {l:cS}:n9 l []:=trivial
theorem VW.slen {kk r k g off n m:Nat} (h:n=m):VW (.sl kk r k g off n) (.sl kk r k g off m):=by subst h;exact VW.refl _
theorem kL {α:Type} (l:List α) (i:Int) (x:α):(b6 l i x).length=l.length:=by simp[b6]
theorem pU {α:Type} (n:Int) (x:α):(ek n x).length=n.toNat:=by simp[ek]
theorem de {i:Int} {n m:Nat} (h:0<=i/\i<(n:Int)) (e:n=m):i.toNat<m:=om
section
variable {P:Program} {n:Nat} {nrm ret:Env->St->Prop} {ex:Nat->Env->St->Prop} {t:Env} {S:St} {x y:Code}
theorem Vc.condT {c:Operand} {v:Bool} (hc:ev t c = .bool v) (hv:v=true) (h1:Vc P n x ⟨nrm,ex,ret⟩ t S):Vc P n (.cond c x y) ⟨nrm,ex,ret⟩ t S:=Vc.cond hc (λ_=>h1) (λh=>by rw[hv] at h;cases h)
theorem Vc.condF {c:Operand} {v:Bool} (hc:ev t c = .bool v) (hv:v=false) (h1:Vc P n y ⟨nrm,ex,ret⟩ t S):Vc P n (.cond c x y) ⟨nrm,ex,ret⟩ t S:=Vc.cond hc (λh=>by rw[hv] at h;cases h) (λ_=>h1)
theorem Vc.join' {σ:Type} (J:σ->Prop) (T:σ->Env) (Z:σ->St) (hK:∀z,J z->Vc P n y ⟨nrm,ex,ret⟩ (T z) (Z z))
    (h:Vc P n x ⟨λt S=>∃z,EWk t S (T z) (Z z)/\J z,ex,ret⟩ t S):Vc P n (.seq x y) ⟨nrm,ex,ret⟩ t S:=
  Vc.seq (Vc.join (Q:=⟨nrm,ex,ret⟩) J T Z _ (λz hz _ _ hw=>Vc.wk hw (hK z hz)) h)
theorem Wl.guardT {ops rest:List Oper} {K:Env->St->Prop} {d:Option Nat} {op:Op} {ty:TypeId} {pos:String} {after:Array Edge} {j g:Nat} {want b:Bool} (hd:(ops[j]?).bind (·.dst)=some g) (hb:t g = .bool b) (hv:b=want)
    (h1:Wl P n ops (⟨d,op,ty,pos,after,none⟩ :: rest) K t S):Wl P n ops (⟨d,op,ty,pos,after,some (j,want)⟩ :: rest) K t S:=Wl.guard hd hb (λ_=>h1) (λh=>by subst hv;cases b<;>cases h)
theorem Wl.guardF {ops rest:List Oper} {K:Env->St->Prop} {d:Option Nat} {op:Op} {ty:TypeId} {pos:String} {after:Array Edge} {j g:Nat} {want b b':Bool} (hd:(ops[j]?).bind (·.dst)=some g) (hb:t g = .bool b) (hv:b=b') (hn:b' = !want)
    (h1:Wl P n ops rest K (bX t d (.tuple [])) S):Wl P n ops (⟨d,op,ty,pos,after,some (j,want)⟩ :: rest) K t S:=Wl.guard hd hb (λh=>by subst hv hn;cases want<;>cases h) (λ_=>h1)
end
section
variable {P:Program} {rg:Nat} {t:Env} {S S0:St} {L:cS} {K:AV->St->Prop} {x y i a:Operand} {v:AV} {k:IntKind} {m q:Int} {T T' e:TypeId}
theorem bI {d:Option Nat} {kk r k' g c:Nat} (hT:td P T = .slice e) (hs:sz P e=kk) (h0:0<kk) (hx:ev t x = .sl kk r k' g 0 c) (hi:ev t i = .int k m) (hb:0<=m/\m<c) (h:K (.ptr r k' g m.toNat 0) S):vo P rg d (.indexAddr T x i) t S K:=
  tt hT hs h0 hx hi hb (by rw[Nat.zero_add];exact h)
theorem ag {d:Option Nat} {r k kk g off:Nat} {u:AV} (hS:S r k=some (.arr kk [u],g)) (hs:sz P T=1) (ha:bJ P T=false) (hx:ev t x = .ptr r k g 0 off) (hl:Nat.ble (off+1) kk=true) (hv:u.cells.getD off .junk=v) (h:K v S):vo P rg d (.load T x) t S K:=
  oX (hS) hs om (.inr ⟨ha,rfl⟩) hx (by simp) (Nat.le_of_ble_eq_true hl) (by rw[ha];exact hv) h
theorem aw {d:Option Nat} {r k kk g off sz':Nat} {u:AV} (hS:S r k=some (.arr kk [u],g)) (hs:sz P T=sz') (h0:0<sz') (ha:bJ P T=true) (hx:ev t x = .ptr r k g 0 off) (hl:Nat.ble (off+sz') kk=true) (hv:AV.agg ((u.cells.drop off).take sz')=v) (h:K v S):vo P rg d (.load T x) t S K:=
  oX (hS) hs h0 (.inl ha) hx (by simp) (Nat.le_of_ble_eq_true hl) (by rw[ha];exact hv) h
theorem db {d:Option Nat} {α:Type} [Inhabited α] {enc:α->AV} {l:List α} {r k kk g off:Nat} (hS:S r k=some (.arr kk (l.map enc),g)) (hs:sz P T=1) (ha:bJ P T=false) (hx:ev t x = .ptr r k g m.toNat off) (hi:m.toNat<l.length) (hl:Nat.ble (off+1) kk=true)
    (hv:(enc (at' l m)).cells.getD off .junk=v) (h:K v S):vo P rg d (.load T x) t S K:=
  oX (hS) hs om (.inr ⟨ha,rfl⟩) hx (by simpa using hi) (Nat.le_of_ble_eq_true hl) (by rw[ha,p8 hi];exact hv) h
theorem cd {d:Option Nat} {n:Nat} {fs:List (Nat×TypeId)} {z:AV} {szs:List Nat} {parts:List (Nat×Operand)} {ps:List (Nat×AV)} (hT:td P T = .struct fs) (hz:zav P T=z) (hok:(cI P T && eU (zav P T) && fs.all (λf=>decide (0<sz P f.2)))=true)
    (hszs:fs.map (λf=>sz P f.2)=szs) (hsT:sz P T=n) (hp:parts.map (λp=>(p.1,ev t p.2))=ps)
    (hc:(ps.all λp=>p.2.solid && (Nat.beq p.2.cells.length (szs.getD p.1 0) && (Nat.ble (p.1+1) fs.length && Nat.ble ((fs.getD p.1 (0,0)).1+p.2.cells.length) n)))=true)
    (hv:ps.foldl (λv p=>stv v (fs.getD p.1 (0,0)).1 p.2) z=v) (h:K v S):vo P rg d (.build T parts.toArray) t S K:=by
  rw[vo_build,gU,hT]
  refine⟨hok,?_,?_⟩
  · rw[hp]
    rw[List.all_eq_true] at hc ⊢
    intro p hm
    have:=hc p hm
    simp only[Bool.and_eq_true,Nat.ble_eq] at this
    obtain⟨a1,a2,a3,a4⟩:=this
    replace a2:=Nat.eq_of_beq_eq_true a2
    have e:sz P (fs.getD p.1 (0,0)).2=szs.getD p.1 0:=by
      rw[<-hszs,List.getD_eq_getElem?_getD,List.getD_eq_getElem?_getD]
      have:p.1<fs.length:=a3
      simp[this]
    simp only[Bool.and_eq_true,beq_iff_eq,decide_eq_true_eq]
    exact⟨⟨⟨a1,by rw[e];exact a2⟩,a3⟩,by rw[hsT];exact a4⟩
  · rw[hp,hz,hv];exact h
abbrev nM:=List (Nat×Nat×GObj×Nat)
def stX (S:St):nM->St
  | []=>S
  | (r,k,o,g) :: X=>St.set (stX S X) r k o g
def DK:List (Nat×Nat)->Prop
  | []=>True
  | p :: X=>(∀q∈X,¬(q.1=p.1/\q.2=p.2))/\DK X
def DX (X:nM):Prop:=DK (X.map λp=>(p.1,p.2.1))
theorem DX.ne {r' k' g' r k g:Nat} {o' o:GObj} {X:nM} (h:DX ((r',k',o',g') :: X)) (hm:(r,k,o,g)∈X):¬(r=r'/\k=k'):=h.1 (r,k) (List.mem_map.2 ⟨_,hm,rfl⟩)
theorem qo {S:St} {r k g:Nat} {o:GObj}:∀ {X:nM} (i:Nat),DX X->X[i]? = some (r,k,o,g)->stX S X r k=some (o,g)
  | [],i,_,h=>by simp at h
  | p :: X,0,_,h=>by
    simp at h;subst h
    simp[stX,St.set]
  | (r',k',o',g') :: X,i+1,hd,h=>by
    have hm:(r,k,o,g)∈X:=List.mem_of_getElem? (by simpa using h)
    have:=hd.ne hm
    simp only[stX,St.set]
    rw[if_neg this]
    exact qo i hd.2 (by simpa using h)
theorem qW {S:St} {r k g g':Nat} {o o':GObj}:∀ {X:nM} (i:Nat),DX X->X[i]? = some (r,k,o,g)->(stX S X).set r k o' g'=stX S (X.set i (r,k,o',g'))
  | [],i,_,h=>by simp at h
  | p :: X,0,_,h=>by
    simp at h;subst h
    simp only[stX,List.set_cons_zero]
    funext a b
    simp only[St.set]
    split<;>rfl
  | (r',k',o2,g2) :: X,i+1,hd,h=>by
    have hm:(r,k,o,g)∈X:=List.mem_of_getElem? (by simpa using h)
    have hne:=hd.ne hm
    simp only[stX,List.set_cons_succ]
    rw[<-qW i hd.2 (by simpa using h)]
    funext a b
    simp only[St.set]
    by_cases h1:a=r/\b=k
    · obtain⟨rfl,rfl⟩:=h1
      rw[if_pos ⟨rfl,rfl⟩,if_neg hne,if_pos ⟨rfl,rfl⟩]
    · simp only[if_neg h1]
theorem atL {S0:St} {rg k g:Nat} {l:cS} {o:GObj} (h:lkp l k=some (o,g)):stL S0 rg l rg k=some (o,g):=by rw[fM];exact h
theorem ba {S0:St} {rg k g:Nat} {l:cS} {o:GObj}:(stL S0 rg l).set rg k o g=stL S0 rg ((k,o,g) :: l):=eK
theorem atX {S:St} {rg r k g:Nat} {X:nM} {l:cS} {o:GObj} (hne:r≠rg) (hd:DX X) (i:Nat) (h:X[i]? = some (r,k,o,g)):stL (stX S X) rg l r k=some (o,g):=by rw[mS hne];exact qo i hd h
theorem vN {S:St} {rg r k g g':Nat} {X X':nM} {l:cS} {o o':GObj} (hne:r≠rg) (hd:DX X) (i:Nat) (h:X[i]? = some (r,k,o,g)) (hX:X.set i (r,k,o',g')=X'):(stL (stX S X) rg l).set r k o' g'=stL (stX S X') rg l:=by
  subst hX
  rw[<-qW i hd h]
  funext a b
  simp only[St.set,stL]
  by_cases h1:a=rg
  · subst h1
    have:¬(a=r/\b=k):=λh=>hne h.1.symm
    simp[this]
  · simp[h1]
theorem jp {S:St} {rg r k g:Nat} {X:nM} {o:GObj} (hd:DX X) (hrg:∀k,stX S X rg k=none) (i:Nat) (h:X[i]? = some (r,k,o,g)):r≠rg:=by
  rintro rfl
  have:=qo (S:=S) i hd h
  rw[hrg] at this
  cases this
theorem gp {S:St} {rg:Nat}:∀ {X X':nM},X.map (λp=>(p.1,p.2.1))=X'.map (λp=>(p.1,p.2.1))->(∀k,stX S X rg k=none)->∀k,stX S X' rg k=none
  | [],[],_,h=>h
  | [],_ :: _,e,_=>by simp at e
  | _ :: _,[],e,_=>by simp at e
  | (r,k,o,g) :: X,(r',k',o',g') :: X',e,h=>λj=>by
    simp only[List.map_cons,List.cons.injEq,Prod.mk.injEq] at e
    obtain⟨⟨rfl,rfl⟩,e⟩:=e
    have h1:=h j
    simp only[stX,St.set] at h1 ⊢
    by_cases hc:rg=r/\j=k
    · rw[if_pos hc] at h1;cases h1
    · rw[if_neg hc] at h1 ⊢
      refine gp e (λj=>?_) j
      have h2:=h j
      simp only[stX,St.set] at h2
      by_cases hc2:rg=r/\j=k
      · rw[if_pos hc2] at h2;cases h2
      · rw[if_neg hc2] at h2;exact h2
theorem tR {P:Program} {f:FuncId} {as:List AV} {S S':St} {R:AV->St->Prop} (e:S'=S) (h:Ctr P f as S' R):Ctr P f as S R:=e▸h
theorem oe {S:St} {r k g:Nat} {o:GObj} (h:S r k=some (o,g)):stX S [(r,k,o,g)]=S:=by
  funext a b
  simp only[stX,St.set]
  split
  · rename_i hc;obtain⟨rfl,rfl⟩:=hc;exact h.symm
  · rfl
theorem Rel.moveOut {G:Ghost} {S:St} {w:World} {rg k0 g:Nat} {l:cS} {o:GObj} (h:Rel G (stL S rg l) w) (hrg:∀k,S rg k=none) (hS:lkp l k0=some (o,g)) (q k:Nat) :
    ∃g' G',G.le G'/\Rel G' (S.set q k o g') w/\∀kk off n x,VR G (.sl kk rg k0 g off n) x->VR G' (.sl kk q k g' off n) x:=by
  obtain⟨g',hg'⟩:=h.fresh q k
  obtain⟨L,hL,hobj,hown⟩:=h.obj rg k0 o g (by rw[fM];exact hS)
  let G':Ghost:={ G with loc:=λr2 k2 g2=>if r2=q/\k2=k/\g2=g' then some L else G.loc r2 k2 g2 }
  have hle:G.le G':=by
    refine⟨⟨rfl,λ_ h=>h,rfl⟩,λ_ _ _ e=>e,λr2 k2 g2 L2 e=>?_⟩
    show(if r2=q/\k2=k/\g2=g' then some L else G.loc r2 k2 g2)=some L2
    split
    · rename_i hc;obtain⟨rfl,rfl,rfl⟩:=hc;rw[hg'] at e;cases e
    · exact e
  have hloc:G'.loc q k g'=some L:=by
    show(if q=q/\k=k/\g'=g' then some L else _)=_
    rw[if_pos ⟨rfl,rfl,rfl⟩]
  have hold:∀ {r2 k2 o2 g2},S r2 k2=some (o2,g2)->stL S rg l r2 k2=some (o2,g2):=λ{r2 k2 o2 g2} e=>by
    have hne:r2≠rg:=by rintro rfl;rw[hrg] at e;cases e
    rw[mS hne];exact e
  refine⟨g',G',hle,⟨h.below,h.imm,?_,?_,?_,?_⟩,?_⟩
  · intro r2 k2 o2 g2 e
    simp only[St.set] at e
    split at e
    · rename_i hc;obtain⟨rfl,rfl⟩:=hc;cases e
      exact⟨L,hloc,hobj.keep hle (λ_=>rfl),hown⟩
    · obtain⟨L2,q1,q2,q3⟩:=h.obj _ _ _ _ (hold e)
      exact⟨L2,hle.loc _ _ _ _ q1,q2.keep hle (λ_=>rfl),q3⟩
  · intro r1 k1 o1 g1 r2 k2 o2 g2 L1 L2 e1 e2 l1 l2 c1 c2 hne
    have src:∀ {r2 k2 o2 g2 L2},(S.set q k o g') r2 k2=some (o2,g2)->G'.loc r2 k2 g2=some L2->(r2=q/\k2=k/\L2=L)\/(¬(r2=q/\k2=k)/\S r2 k2=some (o2,g2)/\∃L3,G.loc r2 k2 g2=some L3/\L2=L3):=by
      intro r2 k2 o2 g2 L2 e l2
      simp only[St.set] at e
      split at e
      · rename_i hc;obtain⟨rfl,rfl⟩:=hc;cases e;rw[hloc] at l2;exact .inl ⟨rfl,rfl,(Option.some.inj l2).symm⟩
      · rename_i hc
        obtain⟨L3,q1,_⟩:=h.obj _ _ _ _ (hold e)
        have:=hle.loc _ _ _ _ q1
        rw[this] at l2
        exact .inr ⟨hc,e,L3,q1,(Option.some.inj l2).symm⟩
    rcases src e1 l1 with⟨rfl,rfl,rfl⟩ | ⟨hn1,f1,L3,m1,rfl⟩
    · rcases src e2 l2 with⟨rfl,rfl,rfl⟩ | ⟨hn2,f2,L4,m2,rfl⟩
      · exact absurd ⟨rfl,rfl⟩ hne
      · have hr2:r2≠rg:=by rintro rfl;rw[hrg] at f2;cases f2
        exact h.inj rg k0 o g r2 k2 o2 g2 _ _ (by rw[fM];exact hS) (hold f2) hL m2 c1 c2 (λhc=>hr2 hc.1.symm)
    · rcases src e2 l2 with⟨rfl,rfl,rfl⟩ | ⟨hn2,f2,L4,m2,rfl⟩
      · have hr1:r1≠rg:=by rintro rfl;rw[hrg] at f1;cases f1
        exact h.inj r1 k1 o1 g1 rg k0 o g _ _ (hold f1) (by rw[fM];exact hS) m1 hL c1 c2 (λhc=>hr1 hc.1)
      · exact h.inj _ _ _ _ _ _ _ _ _ _ (hold f1) (hold f2) m1 m2 c1 c2 hne
  · obtain⟨N,hN⟩:=h.fin
    refine⟨max N (max (q+1) (rg+1)),λr2 hr k2=>?_⟩
    have hne:r2≠rg:=om
    have h1:=hN r2 om k2
    rw[mS hne] at h1
    simp only[St.set]
    rw[if_neg (λhc=>om)]
    exact h1
  · intro r2 k2
    obtain⟨N,hN⟩:=h.fing r2 k2
    refine⟨max N (g'+1),λg2 hg2=>?_⟩
    show(if r2=q/\k2=k/\g2=g' then some L else G.loc r2 k2 g2)=none
    rw[if_neg (λhc=>om)]
    exact hN g2 om
  · intro kk off n x hv
    cases hv with
    | sl _ _ _ _ _ _ a L' h1 h2 h3 h4 h5=>
      rw[hL] at h1;cases h1
      exact .sl (G:=G') kk q k g' off n a _ hloc h2 h3 h4 h5
theorem sg {R:AV->St->Prop} {S:St} {rg k0 g kk n:Nat} {l:cS} {o:GObj} (q k:Nat) (hrg:∀k,S rg k=none) (hS:lkp l k0=some (o,g)) (h:∀g',R (.sl kk q k g' 0 n) (S.set q k o g')):cX R (.sl kk rg k0 g 0 n) (stL S rg l):=λG w x hr hv=>by
  obtain⟨g',G',a1,a2,a3⟩:=hr.moveOut hrg hS q k
  exact⟨_,_,G',h g',a1,a2,a3 _ _ _ _ hv⟩
theorem mK {P:Program} {rg:Nat} {t:Env} {S:St} {K:AV->St->Prop} {x i:Operand} {kd:IntKind} {m:Int} {T e:TypeId} {d:Option Nat} {kk r k' g off c:Nat} (hT:td P T = .slice e) (hs:sz P e=kk) (h0:0<kk) (hx:ev t x = .sl kk r k' g off c) (hi:ev t i = .int kd m) (hb:0<=m/\m<c) (h:K (.ptr r k' g ((off:Int)+m).toNat 0) S):vo P rg d (.indexAddr T x i) t S K:=
  tt hT hs h0 hx hi hb (by
    have:off+m.toNat=((off:Int)+m).toNat:=om
    rw[this];exact h)
theorem mW {P:Program} {w:World} {T e:TypeId} {a:Option Addr} {n c:Nat} (hu:P.underlying T=some (.slice e)) (d:Nat):(Op.equalIn (d+1) T (.slice a n c) (.slice none 0 0)).run P w = .ok a.isNone w:=by
  cases a<;>simp only[Op.equalIn,Sem.run_bind,run_underlying hu,Result.andThen_ok,Sem.run_pure]<;>rfl
theorem oQ {P:Program} {w:World} {T e:TypeId} {a:Option Addr} {n c:Nat} (hu:P.underlying T=some (.slice e)):(Op.equal T (.slice a n c) (.slice none 0 0)).run P w = .ok a.isNone w:=by
  unfold Op.equal Op.maxDepth
  exact mW hu 9999
theorem Wl.stepS {P:Program} {n:Nat} {ops rest:List Oper} {K:Env->St->Prop} {o:Oper} {t:Env} {S:St} (hv:SOp P n o t S (λv S'=>Wl P n ops rest K (bX t o.dst v) S')) (hg:o.guard=none):Wl P n ops (o :: rest) K t S:=by
  intro hok ro G a w Q hr ht hQ
  have hdo:=hok o (by simp)
  have hok2:∀o∈rest,∀d,o.dst=some d->d<n:=λo ho=>hok o (by simp[ho])
  unfold wpListIn
  rw[if_pos (by simp[Region.wanted,hg])]
  refine(hv ro G a w _ Q hr ht (λv av S' G' w' hk hle hr' hav=>?_))
  exact hk hok2 ro G' _ w' Q hr' ((ht.mono hle).put hdo hav) (λa w hl=>hQ a w (Gg.lift_mono hl hle))
theorem Wl.isnil {P:Program} {n:Nat} {ops rest:List Oper} {K:Env->St->Prop} {d:Option Nat} {ty:TypeId} {pos:String} {after:Array Edge} {t:Env} {S:St} {α:Type} {enc:α->AV} {l:List α} {T T' e:TypeId} {x y:Operand}
    (hT:td P T = .slice e) (hx:ev t x=eL enc l) (hy:ev t y = .nil) (h:∀b:Bool,(b=true->l=[])->Wl P n ops rest K (bX t d (.bool b)) S):Wl P n ops (⟨d,.binOp .eql T x y T',ty,pos,after,none⟩ :: rest) K t S:=by
  refine Wl.stepS (QOp.sop ?_) rfl
  intro G ρ w hr he
  have h1:=he x
  have h2:=he y
  rw[hx] at h1
  rw[hy] at h2
  generalize hvx:ρ x=vx at h1
  generalize hvy:ρ y=vy at h2
  cases h2
  cases h1 with
  | list _ a m cap c z k u q1 q2 q3 q4 q5 q6 q7=>
  refine⟨.bool a.isNone,.bool a.isNone,?_,h _ (λhn=>?_),.bool _⟩
  · have hg:(eqGuard .eql T x y (.slice a m cap) (.slice none 0 0)).run P w = .ok () w:=rfl
    have hb:(do eqGuard .eql T x y (.slice a m cap) (.slice none 0 0);binOp .eql T (.slice a m cap) (.slice none 0 0):Sem Value).run P w = .ok (.bool a.isNone) w:=by
      simp only[Sem.run_bind,hg,Result.andThen_ok]
      exact d6 (oQ (P:=P) (w:=w) (T:=T) (a:=a) (n:=m) (c:=cap) (eJ hT))
    have hl:∀(s:Sem Value) (v:Value),s.run P w = .ok v w->((do pure (.value (←s))):Sem Next).run P w = .ok (.value v) w:=by
      intro s v h1
      simp[h1]
    show((do pure (.value (←(do eqGuard .eql T x y (ρ x) (ρ y);binOp .eql T (ρ x) (ρ y))))):Sem Next).run P w=_
    rw[hvx,hvy]
    exact hl _ _ hb
  · cases hl:l with
    | nil=>rfl
    | cons b l'=>
      have:0<m:=by rw[q1,hl];simp
      rw[q4 this] at hn
      cases hn
theorem tr {P:Program} {rg:Nat} {t:Env} {S:St} {K:AV->St->Prop} {x i:Operand} {kd:IntKind} {m:Int} {T:TypeId} {d:Option Nat} {s:ByteArray} (hT:td P T = .str) (hx:ev t x = .str s) (hi:ev t i = .int kd m) (hb:0<=m/\m<s.size) (h:K (.int .u8 (kg s m.toNat)) S):vo P rg d (.index T x i) t S K:=by
  rw[vo_index,hx,hi,gT,hT]
  exact⟨hb,h⟩
theorem dx1 {r k g:Nat} {o:GObj}:DX [(r,k,o,g)]:=⟨by simp,trivial⟩
def VWC (a b:AV):Prop:=a.cells.length=b.cells.length/\∀j (h1:j<a.cells.length) (h2:j<b.cells.length),VW a.cells[j] b.cells[j]
theorem VWL.vwc {a b:AV} (h:VWL a.cells b.cells):VWC a b:=⟨h.len.symm,λj h1 h2=>h.at j h1 h2⟩
def OW:GObj->GObj->Prop
  | .arr kk es,.arr kk' es'=>kk'=kk/\es'.length=es.length/\∀i (h1:i<es.length) (h2:i<es'.length),VWC es[i] es'[i]
  | _,_=>False
theorem Rel.ow {G:Ghost} {S:St} {w:World} (h:Rel G S w) {r k g:Nat} {o o':GObj} (hS:S r k=some (o,g)) (ho:OW o o'):Rel G (S.set r k o' g) w:=by
  obtain⟨L,hL,hobj,hown⟩:=h.obj _ _ _ _ hS
  have hobj':fK G w L o':=by
    cases o with
    | mp=>exact ho.elim
    | lp=>exact ho.elim
    | arr kk es=>
    cases o' with
    | mp=>exact ho.elim
    | lp=>exact ho.elim
    | arr kk' es'=>
    obtain⟨rfl,hl,hv⟩:=ho
    obtain⟨h1,h2,h3,h3',h4,h5⟩:=hobj
    refine⟨h1,h2,by omega,h3',λi hi=>?_,λhc=>?_⟩
    · rw[<-(hv i om hi).1];exact h4 i om
    · obtain⟨row,a1,a2,a3⟩:=h5 hc
      refine⟨row,a1,a2,λi hi j hj=>?_⟩
      have hvi:=hv i om hi
      obtain⟨z,z1,z2⟩:=a3 i om j (by rw[hvi.1];exact hj)
      exact⟨z,z1,hvi.2 j _ hj G _ z2⟩
  refine⟨h.below,h.imm,λr' k' o2 g2 e=>?_,?_,?_,h.fing⟩
  · simp only[St.set] at e
    split at e
    · rename_i hc;obtain⟨rfl,rfl⟩:=hc;cases e;exact⟨L,hL,hobj',hown⟩
    · exact h.obj _ _ _ _ e
  · intro r1 k1 o1 g1 r2 k2 o2 g2 L1 L2 e1 e2 l1 l2 c1 c2 hne
    simp only[St.set] at e1 e2
    have fix:∀ {r' k' o' g'},(if r'=r/\k'=k then some (o',g) else S r' k')=some (o',g')->True:=λ_=>trivial
    split at e1
    · rename_i hc1
      obtain⟨rfl,rfl⟩:=hc1
      cases e1
      split at e2
      · rename_i hc2;exact absurd ⟨hc2.1.symm,hc2.2.symm⟩ hne
      · exact h.inj _ _ _ _ _ _ _ _ _ _ hS e2 l1 l2 c1 c2 hne
    · split at e2
      · rename_i hc2
        obtain⟨rfl,rfl⟩:=hc2
        cases e2
        exact h.inj _ _ _ _ _ _ _ _ _ _ e1 hS l1 l2 c1 c2 hne
      · exact h.inj _ _ _ _ _ _ _ _ _ _ e1 e2 l1 l2 c1 c2 hne
  · obtain⟨N,hN⟩:=h.fin
    refine⟨N,λr' hr k'=>?_⟩
    simp only[St.set]
    split
    · rename_i hc;obtain⟨rfl,rfl⟩:=hc;rw[hN _ hr] at hS;cases hS
    · exact hN r' hr k'
theorem EWk.ow {t:Env} {S0:St} {rg k g:Nat} {L:cS} {o o':GObj} (hS:lkp L k=some (o,g)) (ho:OW o o'):EWk t (stL S0 rg L) t (stL S0 rg ((k,o',g) :: L)):=λn G a w hr ht=>
  ⟨G,Ghost.le.refl G,by rw[<-eK];exact hr.ow (by rw[fM];exact hS) ho,ht⟩
theorem OW.one {kk:Nat} {a b:AV} (h:VWC a b):OW (.arr kk [a]) (.arr kk [b]):=⟨rfl,rfl,λi h1 h2=>by
  have:i=0:=by simpa using h1
  subst this
  exact h⟩
theorem bf {d kk:Nat} {z:AV} (hz:zav P T=z) (hok:cI P T=true) (hk:z.cells.length=kk) (h:∀g,K (.ptr rg d g 0 0) (stL S0 rg ((d,.arr kk [z],g) :: L))):vo P rg (some d) (.alloc T) t (stL S0 rg L) K:=by
  rw[vo_alloc]
  refine⟨hok,λg=>?_⟩
  rw[hz,hk,Option.getD_some,eK]
  exact h g
theorem cp {d kk:Nat} (hx:ev t x=v) (hs:v.solid=true) (hk:v.cells.length=kk) (h0:0<kk) (h:∀g,K (.ptr rg d g 0 0) (stL S0 rg ((d,.arr kk [v],g) :: L))):vo P rg (some d) (.box T x) t (stL S0 rg L) K:=by
  rw[vo_box,hx]
  refine⟨⟨hs,by omega⟩,λg=>?_⟩
  rw[hk,Option.getD_some,eK]
  exact h g
theorem au {d:Option Nat} {r k kk g off sz':Nat} {u w:AV} {S':St} (hS:S r k=some (.arr kk [u],g)) (hs:sz P T=sz') (h0:0<sz') (ha:ev t a = .ptr r k g 0 off) (hx:ev t x=w) (hl:Nat.beq w.cells.length sz'=true) (hc:(Nat.ble (off+sz') kk && dt w.cells)=true)
    (hv:stv u off w=v) (hset:S.set r k (.arr kk [v]) g=S') (h:K .junk S'):vo P rg d (.store T a x) t S K:=by
  rw[vo_store,ha,hx,e9]
  simp only[hS]
  simp only[Bool.and_eq_true,Nat.ble_eq] at hc
  have hl':=Nat.eq_of_beq_eq_true hl
  refine⟨⟨trivial,by simp,by omega,by omega,by omega,hc.2⟩,?_⟩
  have:([u].set 0 (stv ([u].getD 0 .junk) off w))=[v]:=by simp[<-hv]
  rw[this,hset]
  exact h
theorem ui {u w:AV} {kk:Nat} (hu:u.cells.length=kk) (hw:w.cells.length=kk) (hagg:∃l,w = .agg l):stv u 0 w=w:=by
  obtain⟨l,rfl⟩:=hagg
  cases u with
  | agg m=>simp[stv,AV.cells] at *;omega
  | _=>rfl
theorem pN {d:Option Nat} {α:Type} {enc:α->AV} {l:List α} {x':α} {r k kk g:Nat} {S':St} (hS:S r k=some (.arr kk (l.map enc),g)) (hs:sz P T=kk) (h0:0<kk) (hk:∀z,(enc z).cells.length=kk) (ha:ev t a = .ptr r k g m.toNat 0) (hx:ev t x=enc x') (hi:m.toNat<l.length)
    (hc:dt (enc x').cells=true) (hst:∀z,stv (enc z) 0 (enc x')=enc x') (hset:S.set r k (.arr kk ((b6 l m x').map enc)) g=S') (h:K .junk S'):vo P rg d (.store T a x) t S K:=by
  rw[vo_store,ha,hx,e9]
  simp only[hS]
  refine⟨⟨trivial,by simpa using hi,by omega,by rw[hk,hs],by omega,hc⟩,?_⟩
  have e:(l.map enc).getD m.toNat .junk=enc (l[m.toNat]'hi):=by
    rw[List.getD_eq_getElem?_getD];simp[hi]
  rw[e,hst]
  have:(l.map enc).set m.toNat (enc x')=(b6 l m x').map enc:=by simp[b6,List.map_set]
  rw[this,hset]
  exact h
theorem bU {d:Option Nat} {α:Type} {enc:α->AV} {l:List α} {x':α} {r k kk g:Nat} {S':St} (hS:S r k=some (.arr kk (l.map enc),g)) (hs:sz P T=kk) (h0:0<kk) (hk:∀z,(enc z).cells.length=kk) (ha:ev t a = .ptr r k g m.toNat 0) (hx:ev t x=enc x') (hi:m.toNat<l.length)
    (hc:dt (enc x').cells=true) (_hst:eU (enc x')=false) (hset:S.set r k (.arr kk ((b6 l m x').map enc)) g=S') (h:K .junk S') (hz:∀z,eU (enc z)=false:=by intro _;rfl):vo P rg d (.store T a x) t S K:=
  pN hS hs h0 hk ha hx hi hc (λz=>by
    have:=hz z
    generalize enc z=u at this
    cases u<;>first | rfl | cases this) hset h
theorem rP {d:Option Nat} {α:Type} {enc:α->AV} {l:List α} {x':α} {r k kk g:Nat} {S':St} (hS:S r k=some (.arr kk (l.map enc),g)) (hs:sz P T=kk) (h0:0<kk) (hk:∀z,(enc z).cells.length=kk) (ha:ev t a = .ptr r k g m.toNat 0) (hx:ev t x=enc x') (hi:m.toNat<l.length)
    (hc:dt (enc x').cells=true) (hst:eU (enc x')=true) (hset:S.set r k (.arr kk ((b6 l m x').map enc)) g=S') (h:K .junk S'):vo P rg d (.store T a x) t S K:=
  pN hS hs h0 hk ha hx hi hc (λz=>ui (hk z) (hk x') (by
    generalize enc x'=u at hst
    cases u<;>first | exact⟨_,rfl⟩ | cases hst)) hset h
theorem uC {d kk:Nat} {z:AV} {b:Nat} {l c:Operand} {n m:Int} (hT:td P T = .slice e) (hb:bts P e=b) (hok:cI P e=true) (hz:zav P e=z) (hk:z.cells.length=kk) (hl:ev t l = .int .i64 n) (hc:ev t c = .int .i64 m)
    (hbd:lz b n m) (h:∀g,K (.sl kk rg d g 0 n.toNat) (stL S0 rg ((d,.arr kk (ek n z),g) :: L))):vo P rg (some d) (.makeSlice T l c) t (stL S0 rg L) K:=by
  rw[vo_make,hl,hc,lQ,hT]
  refine⟨⟨hbd.1,hbd.2.1,by rw[hb];exact hbd.2.2.1,hbd.2.2.2⟩,hok,λg=>?_⟩
  have:=h g
  rw[hz,hk,Option.getD_some,eK]
  simpa[ek] using this
theorem gy {d kk:Nat} {α:Type} {enc:α->AV} {z':α} {b:Nat} {l c:Operand} {n m:Int} (hT:td P T = .slice e) (hb:bts P e=b) (hok:cI P e=true) (hz:zav P e=enc z') (hk:(enc z').cells.length=kk) (hl:ev t l = .int .i64 n) (hc:ev t c = .int .i64 m)
    (hbd:lz b n m) (h:∀g,K (.sl kk rg d g 0 n.toNat) (stL S0 rg ((d,.arr kk ((ek n z').map enc),g) :: L))):vo P rg (some d) (.makeSlice T l c) t (stL S0 rg L) K:=
  uC hT hb hok hz hk hl hc hbd (λg=>by
    have:=h g
    have e2:(ek n z').map enc=ek n (enc z'):=by simp[ek]
    rw[e2] at this
    exact this)
theorem aY {d kk:Nat} {z:AV} {len:Nat} {parts:List (Nat×Operand)} {es:List AV} (hT:td P T = .slice e) (hok:cI P e=true) (hz:zav P e=z) (hes:parts.map (λp=>ev t p.2)=es) (hk:z.cells.length=kk) (hix:parts.map (·.1)=List.range len) (hlen:es.length=len)
    (hsm:Nat.ble (len*kk) 16777216=true) (hc:(es.all λx=>x.solid && Nat.beq x.cells.length kk)=true) (_hl':len=len) (h:∀g,K (.sl kk rg d g 0 len) (stL S0 rg ((d,.arr kk es,g) :: L))):vo P rg (some d) (.buildSlice T len parts.toArray) t (stL S0 rg L) K:=by
  rw[vo_buildSlice,cH,hT]
  refine⟨⟨by rw[hix];simp,by rw[hes];exact hlen,hok,by rw[hz,hk];exact Nat.le_of_ble_eq_true hsm,?_⟩,λg=>?_⟩
  · rw[hes,hz,hk]
    rw[List.all_eq_true] at hc ⊢
    intro x hx
    have:=hc x hx
    simpa using this
  · rw[hes,hz,hk,Option.getD_some,eK]
    exact h g
theorem jh {d:Option Nat} {α:Type} {enc:α->AV} {z:List α} {kk:Nat} {lo hi:Option Operand} {l h:Int} (hT:td P T = .slice e) (hs:sz P e=kk) (h0:0<kk) (hk:∀z,(enc z).cells.length=kk) (hx:ev t x=eL enc z)
    (hlo:bnd (lo.map (ev t)) 0=some l) (hhi:bnd (hi.map (ev t)) z.length=some h) (hb:0<=l/\l<=h/\h<=z.length) (hK:K (eL enc (eh z l h)) S):vo P rg d (.slice T x lo hi none) t S K:=by
  rw[vo_slice,hx]
  show e_ P T (eL enc z) _ _ none _
  have hhi':bnd (hi.map (ev t)) (z.map enc).length=some h:=by rw[List.length_map];exact hhi
  unfold e_
  rw[hT]
  simp only[hlo,hhi']
  refine⟨⟨hb.1,hb.2.1,by simpa using hb.2.2⟩,⟨by omega,?_⟩,?_⟩
  · rw[List.all_eq_true]
    intro u hu
    obtain⟨w,_,rfl⟩:=List.mem_map.1 hu
    simp[hk,hs]
  · rw[<-List.map_drop,<-List.map_take]
    exact hK
theorem pO {d:Option Nat} {kk r k' g off n:Nat} {lo hi:Option Operand} {l h:Int} (hT:td P T = .slice e) (hs:sz P e=kk) (h0:0<kk) (hx:ev t x = .sl kk r k' g off n)
    (hlo:bnd (lo.map (ev t)) 0=some l) (hhi:bnd (hi.map (ev t)) n=some h) (hb:0<=l/\l<=h/\h<=n) (hK:K (.sl kk r k' g (off+l.toNat) (h.toNat-l.toNat)) S):vo P rg d (.slice T x lo hi none) t S K:=by
  rw[vo_slice,hx]
  show e_ P T (.sl kk r k' g off n) _ _ none _
  unfold e_
  rw[hT]
  simp only[hlo,hhi]
  exact⟨hb,⟨h0,hs.symm⟩,hK⟩
theorem sB {r k kk g:Nat} {es:List AV} {n:Nat} (hS:S r k=some (.arr kk es,g)) (hn:n=es.length):iB S (.sl kk r k g 0 n)=some es:=by
  simp only[iB,hS]
  subst hn
  simp
theorem su {α:Type} {enc:α->AV} {kk:Nat} {l:List α} (hk:∀z,(enc z).cells.length=kk) (hone:∀z,dt (enc z).cells=true):((l.map enc).all λx=>dt x.cells && (x.cells.length == kk))=true:=by
  rw[List.all_eq_true]
  intro u hu
  obtain⟨w,_,rfl⟩:=List.mem_map.1 hu
  simp[hk,hone]
theorem cL {d:Option Nat} {r k kk b n g:Nat} {S':Nat->St} {α:Type} {enc:α->AV} {es xs:List α} {z:AV} (hT:td P T = .slice e) (hb:bts P e=b) (hok:cI P e=true) (hz:zav P e=z) (hS:S r k=some (.arr kk (es.map enc),g)) (hn:n=es.length) (hx:iB S (ev t y)=some (xs.map enc)) (hk:z.cells.length=kk) (hx0:ev t x = .sl kk r k g 0 n)
    (hone:∀z,dt (enc z).cells=true) (hkk:∀z,(enc z).cells.length=kk) (hbd:(es++xs).length*b<=140737488355328) (hb0:Nat.ble 1 b=true) (hset:∀g,S.set r k (.arr kk ((es++xs).map enc)) g=S' g) (h:∀g,K (.sl kk r k g 0 (es++xs).length) (S' g)) :
    vo P rg d (.call { callee:=.builtin .append,args:=#[x,y],argTypes:=#[T,T] }) t S K:=by
  rw[vo_append,hx0,cQ,hT]
  simp only[hx,hS]
  have h1:=Nat.le_of_ble_eq_true hb0
  have h2:(es++xs).length*1<=(es++xs).length*b:=Nat.mul_le_mul_left _ h1
  have hlen:(es++xs).length=es.length+xs.length:=List.length_append
  refine⟨⟨hok,?_⟩,⟨trivial,trivial,trivial,by rw[hz,hk],by simpa using hn⟩,⟨?_,?_⟩,λg=>?_⟩
  · rw[hz,hk];exact su hkk hone
  · rw[hb,List.length_map,List.length_map,<-hlen];exact hbd
  · rw[List.length_map,List.length_map,<-hlen];omega
  · have:=h g
    rw[<-hset,List.map_append,hlen] at this
    simpa using this
theorem aM {d:Option Nat} {c:Operand} {b:Bool} (hc:ev t c = .bool b) (hb:b=true) (hv:ev t x=v) (h:K v S):vo P rg d (.pick c x y) t S K:=tq hc (by rw[hb];exact hv) h
theorem aE {d:Option Nat} {c:Operand} {b:Bool} (hc:ev t c = .bool b) (hb:b=false) (hv:ev t y=v) (h:K v S):vo P rg d (.pick c x y) t S K:=tq hc (by rw[hb];exact hv) h
theorem an {rs:List ResultVar} {k:Nat} {KL:List AV->Prop} (hv:t k=v) (h:kn P rs t S (λvs=>KL (v :: vs))):kn P (.tmp k :: rs) t S KL:=by
  show kn P rs t S (λvs=>KL (t k :: vs))
  rw[hv];exact h
theorem aI {KL:List AV->Prop} (h:KL []):kn P [] t S KL:=h
theorem aX {rs:List ResultVar} {r a k kk g sz':Nat} {u:AV} {KL:List AV->Prop} (hS:S r k=some (.arr kk [u],g)) (hs:sz P T=sz') (h0:0<sz') (ha:bJ P T=true) (hx:t a = .ptr r k g 0 0) (hl:Nat.ble sz' kk=true)
    (hv:AV.agg ((u.cells.drop 0).take sz')=v) (h:kn P rs t S (λvs=>KL (v :: vs))):kn P (.cell a T :: rs) t S KL:=by
  have:=aw (P:=P) (rg:=0) (d:=none) (t:=t) (x:=.tmp a) (K:=λv S=>kn P rs t S (λvs=>KL (v :: vs))) hS hs h0 ha (off:=0) hx (by rw[Nat.zero_add];exact hl) hv h
  rw[vo_load] at this
  have e:ev t (.tmp a)=t a:=rfl
  rw[e] at this
  show eH P T (t a) S (λv=>kn P rs t S (λvs=>KL (v :: vs)))
  exact this
end
section
variable {P:Program} {n rg:Nat} {us:Nat->CR2} {ops rest:List Oper} {op:Op} {d:Option Nat} {ty:TypeId} {pos:String} {after:Array Edge} {j:Nat} {log:Log} {t:Env} {S:St} {K:Env->St->Prop} {nrm ret:Env->St->Prop} {ex:Nat->Env->St->Prop}
theorem Vc.drawn' (hm:P.follows .mixedOrders=true) (rg:Nat) {id:Nat} {l:List Oper} (us:Nat->CR2) (hok:fk n l=true) (h:vdT P rg us l l 0 [] t S nrm):Vc P n (.region id l.toArray true) ⟨nrm,ex,ret⟩ t S:=Vc.drawn hm rg us hok h
theorem dP (hvc:qC (us j) op=false) (hE:iq rg (d.getD 0) (us j) op (ev t)=([],[])) (h:vo P rg d op t S (λv S'=>vdT P rg us ops rest (j+1) log (bX t d v) S' K)):vdT P rg us ops (⟨d,op,ty,pos,after,none⟩ :: rest) j log t S K:=by
  rw[sD hE hvc];exact h
theorem dL {E:jJ} (hvc:qC (us j) op=false) (hE:iq rg (d.getD 0) (us j) op (ev t)=E) (hne:E≠([],[])) (hcf:cf ops log j E) (h:vo P rg d op t S (λv S'=>vdT P rg us ops rest (j+1) ((j,E) :: log) (bX t d v) S' K)):vdT P rg us ops (⟨d,op,ty,pos,after,none⟩ :: rest) j log t S K:=by
  rw[sE hE hvc hne];exact⟨hcf,h⟩
theorem cfn {E:jJ}:cf ops [] j E:=λp hp=>by simp at hp
theorem cfo {i:Nat} {E E':jJ} (h:ni ops i j=true) (h':cf ops log j E):cf ops ((i,E') :: log) j E:=λp hp=>by
  rcases List.mem_cons.1 hp with e | e
  · subst e;exact .inl h
  · exact h' p e
theorem cfa {i:Nat} {E E':jJ} (h:a9 E' E) (h':cf ops log j E):cf ops ((i,E') :: log) j E:=λp hp=>by
  rcases List.mem_cons.1 hp with e | e
  · subst e;exact .inr h
  · exact h' p e
theorem dGT {g:Nat} {gj:Nat} {want b:Bool} (hd:(ops[gj]?).bind (·.dst)=some g) (hb:t g = .bool b) (hv:b=want) (h:vdT P rg us ops (⟨d,op,ty,pos,after,none⟩ :: rest) j log (upd t g (.bool want)) S K):vdT P rg us ops (⟨d,op,ty,pos,after,some (gj,want)⟩ :: rest) j log t S K:=by
  rw[pm,hd]
  show(match t g with | .bool b=>_ | .tuple []=>_ | _=>False)
  rw[hb]
  exact⟨λ_=>h,λh'=>by subst hv;cases b<;>cases h'⟩
theorem dGF {g:Nat} {gj:Nat} {want b b':Bool} (hd:(ops[gj]?).bind (·.dst)=some g) (hb:t g = .bool b) (hv:b=b') (hn:b' = !want) (h:vdT P rg us ops rest (j+1) log (bX (upd t g (.bool !want)) d (.tuple [])) S K):vdT P rg us ops (⟨d,op,ty,pos,after,some (gj,want)⟩ :: rest) j log t S K:=by
  rw[pm,hd]
  show(match t g with | .bool b=>_ | .tuple []=>_ | _=>False)
  rw[hb]
  exact⟨λh'=>(by subst hv hn;cases want<;>cases h'),λ_=>h⟩
theorem dC {f:Operand} {xs:List Operand} {ts:Array TypeId} {g:FuncId} {fs caps vs:List AV} {V:AV} (hf:ev t f = .fn (.func g) fs caps) (ha:VWL (fs++(xs.map (ev t)++caps)) vs) (hc:∀S',Ctr P g vs S' (λv S''=>v=V/\S''=S')) (hu:us j=pc V)
    (h:vdT P rg us ops rest (j+1) log (bX t d V) S K):vdT P rg us ops (⟨d,.call { callee:=.value f,args:=xs.toArray,argTypes:=ts },ty,pos,after,none⟩ :: rest) j log t S K:=by
  rw[sG,hu]
  refine⟨js,?_⟩
  rw[hf]
  exact⟨⟨λγ x hx=>by simp[pc] at hx,λS' _ _=>Ctr.arg ha.len (λi h1 h2=>ha.at i h1 h2) (Ctr.mono (hc S') λv S'' hh=>⟨λ_=>0,hh⟩)⟩,λ_=>h⟩
theorem dB {T e:TypeId} {len:Nat} {parts:List (Nat×Operand)} {es:List AV} (hu:us j=plc) (hT:td P T = .slice e) (hok:cI P e=true) {z:AV} (hz:zav P e=z) (hes:parts.map (λp=>ev t p.2)=es) {kk:Nat} (hk:z.cells.length=kk)
    (hix:(parts.map (·.1) == List.range len)=true) (hlen:Nat.beq es.length len=true) (hsm:Nat.ble (len*kk) 16777216=true) (hall:(es.all λx=>x.solid && (x.cells.length == kk))=true)
    (h:vdT P rg us ops rest (j+1) log (bX t d (.list es)) S K):vdT P rg us ops (⟨d,.buildSlice T len parts.toArray,ty,pos,after,none⟩ :: rest) j log t S K:=by
  rw[oF,hu]
  subst hz hk hes
  refine⟨js,?_⟩
  simp only[vd2,pK,cond_false,nN,plc,cond_true,vd,lcr]
  unfold vBL
  rw[hT]
  exact⟨⟨by simpa using hix,by simpa using Nat.eq_of_beq_eq_true hlen,hok,Nat.le_of_ble_eq_true hsm,by simpa using hall⟩,h⟩
theorem dN (h:K t S):vdT P rg us ops [] j log t S K:=h
end
theorem Rel.remap {G:Ghost} {S S':St} {w:World} (h:Rel G S w) (hs:∀r k o' g,S' r k=some (o',g)->∃o,S r k=some (o,g)/\∀L,G.loc r k g=some L->fK G w L o'):Rel G S' w:=by
  refine⟨h.below,h.imm,λr k o' g e=>?_,?_,?_,h.fing⟩
  · obtain⟨o,e0,hob⟩:=hs _ _ _ _ e
    obtain⟨L,hL,_,hown⟩:=h.obj _ _ _ _ e0
    exact⟨L,hL,hob L hL,hown⟩
  · intro r1 k1 o1 g1 r2 k2 o2 g2 L1 L2 e1 e2 l1 l2 c1 c2 hne
    obtain⟨_,f1,_⟩:=hs _ _ _ _ e1
    obtain⟨_,f2,_⟩:=hs _ _ _ _ e2
    exact h.inj _ _ _ _ _ _ _ _ _ _ f1 f2 l1 l2 c1 c2 hne
  · obtain⟨N,hN⟩:=h.fin
    refine⟨N,λr hr k=>?_⟩
    cases e:S' r k with
    | none=>rfl
    | some x=>
      obtain⟨o,e0,_⟩:=hs _ _ _ _ e
      rw[hN r hr k] at e0
      cases e0
def VWZ (r k g kk:Nat) (xs:List AV) (a b:AV):Prop:=a.cells.length=b.cells.length/\∀j (h1:j<a.cells.length) (h2:j<b.cells.length),VW (n6 r k g kk xs a.cells[j]) b.cells[j]
def OZ (r k g kk:Nat) (xs:List AV):GObj->GObj->Prop
  | .arr k1 [a],.arr k2 [b]=>k2=k1/\VWZ r k g kk xs a b
  | _,_=>False
def wo (r k g kk:Nat) (xs:List AV) (l:cS):cS->Prop
  | []=>True
  | (j,(o,g')) :: m=>(lkp l j=some (o,g')\/∃o0,lkp l j=some (o0,g')/\OZ r k g kk xs o0 o)/\wo r k g kk xs l m
theorem zc {r k g kk:Nat} {xs:List AV} {l m:cS} {j g':Nat} {o:GObj} (h:lkp l j=some (o,g')) (h':wo r k g kk xs l m):wo r k g kk xs l ((j,(o,g')) :: m):=⟨.inl h,h'⟩
def tQ {α β:Type} (f:(α->β->Prop)->Prop) (k:α->β->Prop):Prop:=∃r s,f (λx y=>x=r/\y=s)/\k r s
def vC {α β γ:Type} (f:(α->β->γ->Prop)->Prop) (k:α->β->γ->Prop):Prop:=∃r s u,f (λx y z=>x=r/\y=s/\z=u)/\k r s u
theorem xe {r k g kk:Nat} {xs:List AV} {E:TypeId} {o:Option Int}:VW (o6 r k g kk xs (aW E o)) (aW E o):=by cases o<;>exact VW.refl _
theorem xf {r k g kk:Nat} {xs:List AV} {E:TypeId} {o:Option Int}:VW (frz r k g kk xs (aW E o)) (aW E o):=by cases o<;>exact VW.refl _
attribute [go_sem] kL pU
theorem bN {S:St} {r k kk g n:Nat} {α:Type} {enc:α->AV} {l:List α} (hS:S r k=some (.arr kk (l.map enc),g)) (hn:n=l.length):iB S (.sl kk r k g 0 n)=some (l.map enc):=sB hS (by rw[List.length_map];exact hn)
section
variable {P:Program} {n:Nat} {ops rest:List Oper} {K:Env->St->Prop} {d:Option Nat} {op:Op} {ty:TypeId} {pos:String} {after:Array Edge} {t:Env} {S:St} {x:Operand}
theorem wZ (rg:Nat) (h:vo P rg d op t S (λv S'=>Wl P n ops rest K (bX t d v) S')):Wl P n ops (⟨d,op,ty,pos,after,none⟩ :: rest) K t S:=Wl.cons rg h
theorem mvZ (v:AV) (hx:ev t x=v) (h:Wl P n ops rest K (bX t d v) S):Wl P n ops (⟨d,.move x,ty,pos,after,none⟩ :: rest) K t S:=Wl.cons 0 (ak hx h)
theorem asZ (v:AV) (hx:ev t x=v) (h:Wl P n ops rest K (bX t d v) S):Wl P n ops (⟨d,.assign x,ty,pos,after,none⟩ :: rest) K t S:=Wl.cons 0 (aO hx h)
theorem nZ (h:K t S):Wl P n ops [] K t S:=Wl.nil h
theorem qZ {x y:Code} {nrm ret:Env->St->Prop} {ex:Nat->Env->St->Prop} (h:Vc P n x ⟨Vc P n y ⟨nrm,ex,ret⟩,ex,ret⟩ t S):Vc P n (.seq x y) ⟨nrm,ex,ret⟩ t S:=Vc.seq h
theorem rZ {nrm ret:Env->St->Prop} {ex:Nat->Env->St->Prop} {id:Nat} {l:List Oper} (h:Wl P n l l nrm t S):Vc P n (.region id l.toArray false) ⟨nrm,ex,ret⟩ t S:=Vc.region h
end
end Go.Gg
namespace Go.Gg
theorem O {α:Sort _} {a:α}:a=a:=rfl
abbrev iZ (n:Int):AV:=.int .i64 n
abbrev ac:List Int->AV:=eL (AV.int .u32)
abbrev cb:List Int->AV:=eL iZ
theorem lzZ {P:Prop} (h:P:=by first | rfl | omega | (simp only[kL,pU]<;>omega)):P:=h
theorem krZ {P:Prop} (h:P:=by kernel_rfl):P:=h
theorem dZ {P:Prop} (h:P:=by decide):P:=h
def FA (P:Program) (T f off et:Nat):Prop:=∃fs,td P T = .struct fs/\fs.getD f (0,0)=(off,et)/\Nat.ble (f+1) fs.length=true/\0<sz P et
theorem faZ {P:Program} {rg:Nat} {t:Env} {S:St} {K:AV->St->Prop} {d:Option Nat} {x:Operand} {T f off et:Nat} {cs:List AV} (h:FA P T f off et) (hx:ev t x = .iptr cs) (hl:Nat.ble off cs.length=true) (k:K (.iptr (cs.drop off)) S):vo P rg d (.fieldAddr T x f) t S K:=
  let ⟨_,h1,h2,h3,h4⟩:=h
  xd h1 h2 h3 h4 hx hl k
theorem aS {P:Program} {rg:Nat} {t:Env} {S:St} {K:AV->St->Prop} {d:Option Nat} {x:Operand} {T f off et r k' g i off0:Nat} (h:FA P T f off et) (hx:ev t x = .ptr r k' g i off0) (k:K (.ptr r k' g i (off0+off)) S):vo P rg d (.fieldAddr T x f) t S K:=
  let ⟨_,h1,h2,h3,h4⟩:=h
  wJ h1 h2 h3 h4 hx k
theorem tkZ {A B C:Prop} (h:A/\B) (k:A->B->C):C:=k h.1 h.2
theorem bcZ {c:Bool} {A B C:Prop} (h:ah c A B) (h1:c=true->A->C) (h2:c=false->B->C):C:=by
  cases c
  · exact h2 rfl (h.2 rfl)
  · exact h1 rfl (h.1 rfl)
theorem stZ {α:Type} {e:α} {k:α->Prop} {C:Prop} (h:gX e k) (f:∀v,v=e->k v->C):C:=f e rfl (h e rfl)
section
variable {P:Program} {n:Nat} {nrm ret:Env->St->Prop} {ex:Nat->Env->St->Prop} {t:Env} {S:St} {x y:Code}
theorem kZ (h:nrm t S):Vc P n .skip ⟨nrm,ex,ret⟩ t S:=Vc.skip h
theorem uZ (h:ret t S):Vc P n .ret ⟨nrm,ex,ret⟩ t S:=Vc.ret h
theorem xsZ {id:Nat} {nr:Env->St->Prop} (h:nrm t S):Vc P n (.exit id) ⟨nr,exB id nrm ex,ret⟩ t S:=Vc.exit (p_ h)
theorem xnZ {id i:Nat} {nr:Env->St->Prop} (hi:Nat.beq i id=false) (h:ex i t S):Vc P n (.exit i) ⟨nr,exB id nrm ex,ret⟩ t S:=Vc.exit (wc hi h)
theorem bZ {id:Nat} (h:Vc P n x ⟨nrm,exB id nrm ex,ret⟩ t S):Vc P n (.block id x) ⟨nrm,ex,ret⟩ t S:=Vc.block h
theorem cZ {c:Operand} {v:Bool} {A B:Prop} (h:ah v A B) (hc:ev t c = .bool v) (h1:v=true->A->Vc P n x ⟨nrm,ex,ret⟩ t S) (h2:v=false->B->Vc P n y ⟨nrm,ex,ret⟩ t S):Vc P n (.cond c x y) ⟨nrm,ex,ret⟩ t S:=
  Vc.cond hc (λe=>h1 e (h.1 e)) (λe=>h2 e (h.2 e))
theorem cTZ {c:Operand} {v:Bool} (hc:ev t c = .bool v) (hv:v=true) (h1:Vc P n x ⟨nrm,ex,ret⟩ t S):Vc P n (.cond c x y) ⟨nrm,ex,ret⟩ t S:=Vc.condT hc hv h1
theorem cFZ {c:Operand} {v:Bool} (hc:ev t c = .bool v) (hv:v=false) (h1:Vc P n y ⟨nrm,ex,ret⟩ t S):Vc P n (.cond c x y) ⟨nrm,ex,ret⟩ t S:=Vc.condF hc hv h1
theorem lpZ {σ:Type} {z:σ} {f:σ->(σ->Prop)->Prop} (h:bk z f) (T:σ->Env) (Z:σ->St) (hx:EWk t S (T z) (Z z))
    (k:∀y nx,f y nx->Vc P n x ⟨λt S=>∃z,EWk t S (T z) (Z z)/\nx z,ex,ret⟩ (T y) (Z y)):Vc P n (.loop x) ⟨nrm,ex,ret⟩ t S:=
  let ⟨I,μ,h0,hI⟩:=h
  Vc.loop I μ T Z z hx h0 λy hy=>k y _ (hI y hy)
theorem lgZ {σ γ:Type} {z:σ} {f:σ->(σ->Prop)->Prop} (h:bk z f) (g:γ) (T:σ×γ->Env) (Z:σ×γ->St) (hx:EWk t S (T (z,g)) (Z (z,g)))
    (k:∀y nx,f y.1 nx->Vc P n x ⟨λt S=>∃z,EWk t S (T z) (Z z)/\nx z.1,ex,ret⟩ (T y) (Z y)):Vc P n (.loop x) ⟨nrm,ex,ret⟩ t S:=
  let ⟨I,μ,h0,hI⟩:=h
  Vc.loop (λy=>I y.1) (λy=>μ y.1) T Z (z,g) hx h0 λy hy=>k y _ (hI y.1 hy)
theorem jnZ {σ:Type} {A:(σ->Prop)->Prop} {B:σ->Prop} (h:c6 A B) (T:σ->Env) (Z:σ->St) (hK:∀z,B z->Vc P n y ⟨nrm,ex,ret⟩ (T z) (Z z))
    (h1:∀J,A J->Vc P n x ⟨λt S=>∃z,EWk t S (T z) (Z z)/\J z,ex,ret⟩ t S):Vc P n (.seq x y) ⟨nrm,ex,ret⟩ t S:=
  let ⟨J,hA,hB⟩:=h
  Vc.join' J T Z (λz hz=>hK z (hB z hz)) (h1 J hA)
theorem jgZ {σ γ:Type} {A:(σ->Prop)->Prop} {B:σ->Prop} (h:c6 A B) (T:σ×γ->Env) (Z:σ×γ->St) (hK:∀z:σ×γ,B z.1->Vc P n y ⟨nrm,ex,ret⟩ (T z) (Z z))
    (h1:∀J,A J->Vc P n x ⟨λt S=>∃z,EWk t S (T z) (Z z)/\J z.1,ex,ret⟩ t S):Vc P n (.seq x y) ⟨nrm,ex,ret⟩ t S:=
  let ⟨J,hA,hB⟩:=h
  Vc.join' (λz=>J z.1) T Z (λz hz=>hK z (hB z.1 hz)) (h1 J hA)
end
section
variable {P:Program} {n:Nat} {t:Env} {S:St} {ops rest:List Oper} {K:Env->St->Prop} {d:Option Nat} {op:Op} {ty:TypeId} {pos:String} {after:Array Edge} {j g:Nat}
theorem gTZ {want b:Bool} (hd:(ops[j]?).bind (·.dst)=some g) (hb:t g = .bool b) (hv:b=want) (h1:Wl P n ops (⟨d,op,ty,pos,after,none⟩ :: rest) K t S):Wl P n ops (⟨d,op,ty,pos,after,some (j,want)⟩ :: rest) K t S:=Wl.guardT hd hb hv h1
theorem gFZ {want b b':Bool} (hd:(ops[j]?).bind (·.dst)=some g) (hb:t g = .bool b) (hv:b=b') (hn:b' = !want) (h1:Wl P n ops rest K (bX t d (.tuple [])) S):Wl P n ops (⟨d,op,ty,pos,after,some (j,want)⟩ :: rest) K t S:=Wl.guardF hd hb hv hn h1
theorem gUZ {want:Bool} (hd:(ops[j]?).bind (·.dst)=some g) (hb:t g = .tuple []) (h2:Wl P n ops rest K (bX t d (.tuple [])) S):Wl P n ops (⟨d,op,ty,pos,after,some (j,want)⟩ :: rest) K t S:=Wl.guardU hd hb h2
theorem gtZ {b:Bool} {A B:Prop} (h:ah b A B) (hd:(ops[j]?).bind (·.dst)=some g) (hb:t g = .bool b) (h1:b=true->A->Wl P n ops (⟨d,op,ty,pos,after,none⟩ :: rest) K t S) (h2:b=false->B->Wl P n ops rest K (bX t d (.tuple [])) S) :
    Wl P n ops (⟨d,op,ty,pos,after,some (j,true)⟩ :: rest) K t S:=Wl.guard hd hb (λe=>h1 e (h.1 e)) (λe=>h2 e (h.2 e))
theorem gfZ {b:Bool} {A B:Prop} (h:ah b A B) (hd:(ops[j]?).bind (·.dst)=some g) (hb:t g = .bool b) (h1:b=false->B->Wl P n ops (⟨d,op,ty,pos,after,none⟩ :: rest) K t S) (h2:b=true->A->Wl P n ops rest K (bX t d (.tuple [])) S) :
    Wl P n ops (⟨d,op,ty,pos,after,some (j,false)⟩ :: rest) K t S:=Wl.guard hd hb (λe=>h1 e (h.2 e)) (λe=>h2 e (h.1 e))
end
theorem wv:∀l:List AV,VWL l l
  | []=>trivial
  | _ :: l=>⟨VW.refl _,wv l⟩
theorem clZ {P:Program} {rg:Nat} {t:Env} {S:St} {K:AV->St->Prop} {d:Option Nat} {f:Operand} {xs:List Operand} {ts:Array TypeId} {g:FuncId} {fs caps:List AV} (hf:ev t f = .fn (.func g) fs caps) (h:Ctr P g (fs++(xs.map (ev t)++caps)) S K) :
    vo P rg d (.call { callee:=.value f,args:=xs.toArray,argTypes:=ts }) t S K:=tv hf (wv _) h
theorem fZ {t:Env} {k:Nat} {l:List (Nat×AV)} (h:Fit t l):Fit t ((k,t k) :: l):=⟨VW.refl _,h⟩
theorem vZ {a:AV} {l m:List AV} (h:VWL l m):VWL (a :: l) (a :: m):=⟨VW.refl _,h⟩
theorem dX {P:Program} {n:Nat} {ops l:List Oper} {K:Env->St->Prop} {t t':Env} {S S':St} (hw:EWk t S t' S') (h:Wl P n ops l K t' S'):Wl P n ops l K t S:=Wl.wk hw h
theorem vE {P:Program} {n:Nat} {c:Code} {Q:AK} {t t':Env} {S S':St} (hw:EWk t S t' S') (h:Vc P n c Q t' S'):Vc P n c Q t S:=Vc.wk hw h
theorem lM {P:Program} {n:Nat} {ops l:List Oper} {K:Env->St->Prop} {t:Env} {S S':St} (e:S=S') (h:Wl P n ops l K t S'):Wl P n ops l K t S:=e▸h
theorem qT {P:Program} {rg:Nat} {us:Nat->CR2} {ops rest:List Oper} {j:Nat} {log:Log} {t:Env} {S S':St} {K:Env->St->Prop} (e:S=S') (h:vdT P rg us ops rest j log t S' K):vdT P rg us ops rest j log t S K:=e▸h
section
variable {P:Program} {rg:Nat} {us:Nat->CR2} {ops rest:List Oper} {op:Op} {d:Option Nat} {ty:TypeId} {pos:String} {after:Array Edge} {j:Nat} {log:Log} {t:Env} {S:St} {K:Env->St->Prop} {T e:TypeId} {x y:Operand}
theorem wG {P:Program} {r:Nat} {u:CR2} {d:Option Nat} {op:Op} {t:Env} {S:St} (hp:pK u op=true) (K:AV->St->Prop):vo P r d op t S K=vd P r jcr d op (ev t) S K:=by
  have e2:qC fH op=false:=by
    cases op with
    | call c=>
      obtain⟨callee,xs,ts⟩:=c
      cases callee with
      | value f=>cases hp
      | builtin b=>cases b<;>rfl
      | _=>rfl
    | _=>rfl
  rw[<-sC e2]
  cases op with
  | call c=>
    obtain⟨callee,xs,ts⟩:=c
    cases callee with
    | value f=>cases hp
    | builtin b=>cases b<;>rfl
    | _=>rfl
  | buildSlice=>cases hp
  | _=>rfl
theorem dTA {V:Gen->AV} {rd wk:List Key} {q:Key} {wr:Gen->List WE} (hp:pK (us j) op=true) (hu:us j=tav V rd q wk wr) (hcf:cf ops log j (rd,q :: wk)) (hk:∀γ,∀x∈wr γ,(x.1,x.2.1)∈q :: wk)
    (hc:∀S',bj rd S' S->bj (q :: wk) S' S->vo P rg d op t S' (λv S''=>cX (λv' S3=>∃γ,v'=V γ/\S3=dr (wr γ) S') v S''))
    (h:∀γ,vdT P rg us ops rest (j+1) ((j,(rd,q :: wk)) :: log) (bX t d (V γ)) (dr (wr γ) S) K):vdT P rg us ops (⟨d,op,ty,pos,after,none⟩ :: rest) j log t S K:=by
  rw[oF]
  have e1:iq rg (d.getD 0) (us j) op (ev t)=(rd,q :: wk):=by unfold iq;rw[hp,hu];rfl
  rw[e1,vu (λhc=>by cases hc)]
  refine⟨hcf,?_⟩
  unfold vd2
  rw[hp,hu]
  exact⟨⟨hk,λS' a b=>(wG hp _)▸hc S' a b⟩,h⟩
theorem dAf {α:Type} {enc:α->AV} {es xs:List α} {z:AV} {kk b k0 n g:Nat} {rd:List Key} (hu:us j=tav (λ_=>eL enc (es++xs)) rd (rg,k0) [] (λγ=>[(rg,k0,.arr kk [],γ 0)])) (hcf:cf ops log j (rd,[(rg,k0)])) (hT:td P T = .slice e) (hb:bts P e=b) (hok:cI P e=true) (hz:zav P e=z)
    (hS:S rg k0=some (.arr kk (es.map enc),g)) (hn:n=es.length) (hx0:ev t x = .sl kk rg k0 g 0 n) (hx:∀S',bj rd S' S->iB S' (ev t y)=some (xs.map enc)) (hk:z.cells.length=kk) (hkk0:0<kk)
    (hone:∀z,dt (enc z).cells=true) (hkk:∀z,(enc z).cells.length=kk) (hbd:(es++xs).length*b<=140737488355328) (hb0:Nat.ble 1 b=true)
    (h:∀γ:Gen,vdT P rg us ops rest (j+1) ((j,(rd,[(rg,k0)])) :: log) (bX t d (eL enc (es++xs))) (dr [(rg,k0,.arr kk [],γ 0)] S) K):vdT P rg us ops (⟨d,.call { callee:=.builtin .append,args:=#[x,y],argTypes:=#[T,T] },ty,pos,after,none⟩ :: rest) j log t S K:=by
  refine dTA (by rw[hu];rfl) hu hcf (λγ w hw=>by simp at hw;rw[hw];simp) (λS' a b'=>?_) h
  have hS':S' rg k0=some (.arr kk (es.map enc),g):=(b' (rg,k0) (by simp)).trans hS
  refine cL hT hb hok hz hS' hn (hx S' a) hk hx0 hone hkk hbd hb0 (λ_=>rfl) (λg' G w v hr hv=>?_)
  have hset:(S'.set rg k0 (.arr kk ((es++xs).map enc)) g') rg k0=some (.arr kk ((es++xs).map enc),g'):=by simp[St.set]
  obtain⟨G2,h1,h2,h3⟩:=Wk.freeze (v:=.sl kk rg k0 g' 0 (es++xs).length) hset G w v hr hv
  have e1:frz rg k0 g' kk ((es++xs).map enc) (.sl kk rg k0 g' 0 (es++xs).length)=eL enc (es++xs):=by
    have hl:((es++xs).map enc).length=(es++xs).length:=List.length_map ..
    simp only[frz,o6,n6]
    rw[if_pos ⟨trivial,trivial,trivial,trivial,by omega⟩,List.drop_zero,<-hl,List.take_length]
  rw[e1] at h3
  obtain⟨g2,G3,q1,q2,_⟩:=h2.mat rg k0 kk hkk0
  refine⟨_,_,G3,⟨λ_=>g2,rfl,rfl⟩,h1.trans q1,?_,h3.mono q1⟩
  have e2:dr [(rg,k0,GObj.arr kk [],g2)] S'=((S'.set rg k0 (.arr kk ((es++xs).map enc)) g').del rg k0).set rg k0 (.arr kk []) g2:=by
    show S'.set rg k0 (.arr kk []) g2=_
    funext r' k'
    simp only[St.del,St.set]
    split<;>rfl
  rw[e2]
  exact q2
end
theorem goZ {R:AV->St->Prop} {v:AV} {S:St} {rg:Nat} {l:cS} (hrg:∀k,S rg k=none) (h:R v S):cX R v (stL S rg l):=aJ hrg (VW.refl _) h
theorem aZ {S0:St} {rg:Nat} {l:cS} (k:Nat) {x:GObj×Nat} (h:lkp l k=some x):stL S0 rg l rg k=some x:=atL h
theorem gv0 {P:Program} {R:AV->St->Prop} {t:Env} {S:St} {rg:Nat} {l:cS} (hrg:∀k,S rg k=none) (h:R (.tuple []) S):pE P [] R t (stL S rg l):=goZ hrg h
theorem gv1 {P:Program} {R:AV->St->Prop} {t:Env} {S:St} {rg a:Nat} {l:cS} (hrg:∀k,S rg k=none) (h:R (t a) S):pE P [.tmp a] R t (stL S rg l):=goZ hrg h
theorem aa {P:Program} {n:Nat} {t:Env} {S:St} {ops rest:List Oper} {K:Env->St->Prop} {d:Option Nat} {op:Op} {ty:TypeId} {pos:String} {after:Array Edge} (h:vo P 0 d op t S (λv S'=>Wl P n ops rest K (bX t d v) S')):Wl P n ops (⟨d,op,ty,pos,after,none⟩ :: rest) K t S:=Wl.cons 0 h
theorem aP {t:Env} {a b c d:Nat} {l:List (Nat×AV)} (h:Fit t l):Fit t ((a,t a) :: (b,t b) :: (c,t c) :: (d,t d) :: l):=fZ (fZ (fZ (fZ h)))
theorem eB {l m:cS} {a b c d:Nat} {x y z w:GObj×Nat} (h1:lkp l a=some x) (h2:lkp l b=some y) (h3:lkp l c=some z) (h4:lkp l d=some w) (h:n9 l m):n9 l ((a,x) :: (b,y) :: (c,z) :: (d,w) :: m):=sc h1 (sc h2 (sc h3 (sc h4 h)))
section
variable {P:Program} {n:Nat} {nrm ret:Env->St->Prop} {ex:Nat->Env->St->Prop} {t:Env} {S:St} {x y:Code} {id:Nat} {l ops:List Oper}
theorem af (h:Wl P n l l (Vc P n y ⟨nrm,ex,ret⟩) t S):Vc P n (.seq (.region id l.toArray false) y) ⟨nrm,ex,ret⟩ t S:=qZ (rZ h)
theorem aT (h:Wl P n l l (Vc P n y ⟨nrm,ex,ret⟩) t S):Wl P n ops [] (Vc P n (.seq (.region id l.toArray false) y) ⟨nrm,ex,ret⟩) t S:=nZ (qZ (rZ h))
theorem aD (h:ret t S):Wl P n ops [] (Vc P n .ret ⟨nrm,ex,ret⟩) t S:=nZ (uZ h)
end
end Go.Gg
namespace Go.Gg
def Words (l:List Int):Prop:=∀i,0<=l.getD i 0/\l.getD i 0<4294967296
def pv (l:List Int):Nat->Int
  | 0=>0
  | i+1=>pv l i+l.getD i 0*4294967296^i
def val (l:List Int):Nat:=(pv l l.length).toNat
def lim (n:Nat):List Int:=if h:n=0 then [] else (n % 4294967296:Nat) :: lim (n / 4294967296)
termination_by n
decreasing_by exact Nat.div_lt_self om om
theorem jC {l:List Int} {i:Nat} (h:l.length<=i):l.getD i 0=0:=by simp[List.getD_eq_getElem?_getD,List.getElem?_eq_none h]
theorem Words.take {l:List Int} (h:Words l) (j:Nat):Words (l.take j):=λi=>by
  have:=h i
  rw[List.getD_eq_getElem?_getD,List.getElem?_take] at *
  split<;>simp_all
theorem Words.set {l:List Int} (h:Words l) (j:Nat) {x:Int} (h0:0<=x) (h1:x<4294967296):Words (l.set j x):=λi=>by
  have:=h i
  rw[List.getD_eq_getElem?_getD,List.getElem?_set] at *
  split
  · split<;>simp_all
  · exact this
theorem Words.nil:Words []:=λi=>by simp
theorem Words.rep (n:Nat):Words (List.replicate n 0):=λi=>by
  rw[List.getD_eq_getElem?_getD,List.getElem?_replicate]
  split<;>simp
theorem Words.cons {l:List Int} (h:Words l) {x:Int} (h0:0<=x) (h1:x<4294967296):Words (x :: l):=λi=>by
  cases i with
  | zero=>exact⟨h0,h1⟩
  | succ i=>exact h i
theorem Words.tail {l:List Int} {x:Int} (h:Words (x :: l)):Words l:=λi=>h (i+1)
theorem jU {l m:List Int} {i:Nat} (h:i<l.length):(l++m).getD i 0=l.getD i 0:=by
  rw[List.getD_eq_getElem?_getD,List.getD_eq_getElem?_getD,List.getElem?_append_left h]
theorem jT {l m:List Int} {i:Nat} (h:l.length<=i):(l++m).getD i 0=m.getD (i-l.length) 0:=by
  rw[List.getD_eq_getElem?_getD,List.getD_eq_getElem?_getD,List.getElem?_append_right h]
theorem Words.append {l m:List Int} (h:Words l) (h':Words m):Words (l++m):=λi=>by
  rcases Nat.lt_or_ge i l.length with hi | hi
  · rw[jU hi];exact h i
  · rw[jT hi];exact h' _
theorem Words.drop {l:List Int} (h:Words l) (j:Nat):Words (l.drop j):=λi=>by
  have:=h (j+i)
  rw[List.getD_eq_getElem?_getD,List.getElem?_drop]
  rwa[List.getD_eq_getElem?_getD] at this
theorem fG {l m:List Int}:∀(i:Nat),(∀k,k<i->l.getD k 0=m.getD k 0)->pv l i=pv m i
  | 0,_=>rfl
  | i+1,h=>by rw[pv,pv,fG i (λk hk=>h k om),h i om]
theorem aV {l:List Int} (h:Words l):∀i,0<=pv l i/\pv l i<4294967296^i
  | 0=>by simp[pv]
  | i+1=>by
    obtain⟨h1,h2⟩:=aV h i
    obtain⟨h3,h4⟩:=h i
    rw[pv,Int.pow_succ]
    have hp:(0:Int)<4294967296^i:=om
    have h5:l.getD i 0*4294967296^i<=4294967295*4294967296^i:=Int.mul_le_mul_of_nonneg_right om om
    have h6:0<=l.getD i 0*4294967296^i:=Int.mul_nonneg h3 om
    generalize l.getD i 0*4294967296^i=q at *
    generalize (4294967296:Int)^i=p at *
    omega
theorem l6 {l:List Int}:∀i,l.length<=i->pv l i=pv l l.length
  | 0,h=>by
               have:l.length=0:=om
               rw[this]
  | i+1,h=>by
    rcases Nat.lt_or_ge i l.length with h' | h'
    · have:i+1=l.length:=om
      rw[this]
    · rw[pv,l6 i h',jC h'];simp
theorem bs {l:List Int} (h:Words l):(val l:Int)=pv l l.length:=by
  unfold val
  have:=(aV h l.length).1
  omega
theorem c8 {l:List Int} (h:Words l) {i:Nat} (hi:l.length<=i):(val l:Int)=pv l i:=by rw[bs h,l6 i hi]
theorem iC:val []=0:=rfl
theorem rb (x:Int) (l:List Int):∀i,pv (x :: l) (i+1)=x+4294967296*pv l i
  | 0=>by simp[pv]
  | i+1=>by
    rw[pv,rb x l i,pv]
    have:(x :: l).getD (i+1) 0=l.getD i 0:=by simp
    rw[this,Int.pow_succ]
    generalize l.getD i 0=a
    generalize (4294967296:Int)^i=p
    rw[Int.mul_add,Int.mul_comm p 4294967296,<-Int.mul_assoc,<-Int.mul_assoc,Int.mul_comm a 4294967296]
    omega
theorem fA {x:Int} {l:List Int} (h:Words (x :: l)):val (x :: l)=x.toNat+4294967296*val l:=by
  have h1:=bs h
  have h2:=bs h.tail
  have h3:=h 0
  have:(x :: l).getD 0 0=x:=by simp
  rw[this] at h3
  rw[List.length_cons,rb] at h1
  omega
theorem oo {l:List Int} {j i:Nat} {x:Int} (h:i<=j):pv (l.set j x) i=pv l i:=fG i λk hk=>by
  rw[List.getD_eq_getElem?_getD,List.getD_eq_getElem?_getD,List.getElem?_set_ne om]
theorem fy {l:List Int} {j:Nat} {x:Int} (h:j<l.length):(l.set j x).getD j 0=x:=by
  rw[List.getD_eq_getElem?_getD,List.getElem?_set_self h];rfl
theorem bx {l:List Int} {i j:Nat} {x:Int} (h:j≠i):(l.set j x).getD i 0=l.getD i 0:=by
  rw[List.getD_eq_getElem?_getD,List.getD_eq_getElem?_getD,List.getElem?_set_ne h]
theorem nf {l:List Int} {j:Nat} {x:Int} (h:j<l.length):pv (l.set j x) (j+1)=pv l j+x*4294967296^j:=by
  rw[pv,oo (Nat.le_refl _),fy h]
theorem q_ {l:List Int} {i j:Nat} (h:i<=j):pv (l.take j) i=pv l i:=fG i λk hk=>by
  rw[List.getD_eq_getElem?_getD,List.getD_eq_getElem?_getD,List.getElem?_take_of_lt om]
theorem rN {l m:List Int} {i:Nat} (h:i<=l.length):pv (l++m) i=pv l i:=fG i λk hk=>jU om
theorem iJ {l:List Int} {j:Nat}:∀i,j<=i->(∀k,j<=k->k<i->l.getD k 0=0)->pv l i=pv l j
  | 0,h,_=>by
                  have:j=0:=om
                  rw[this]
  | i+1,h,hz=>by
    by_cases hj:j=i+1
    · rw[hj]
    · rw[pv,iJ i om (λk h1 h2=>hz k h1 om),hz i om om];simp
theorem j4 (n:Nat):∀i,pv (List.replicate n 0) i=0
  | 0=>rfl
  | i+1=>by
    rw[pv,j4 n i,List.getD_eq_getElem?_getD,List.getElem?_replicate]
    split<;>simp
theorem ra {l m:List Int} (hl:Words l) (hm:Words m) {i n:Nat} (hi:i<n) (h:l.getD i 0<m.getD i 0) (he:∀k,i<k->k<n->l.getD k 0=m.getD k 0):pv l n<pv m n:=by
  induction n with
  | zero=>omega
  | succ n ih=>
    rw[pv,pv]
    by_cases hin:i=n
    · subst hin
      obtain⟨a1,a2⟩:=aV hl i
      obtain⟨b1,b2⟩:=aV hm i
      have hp:(0:Int)<4294967296^i:=om
      have h5:(l.getD i 0+1)*4294967296^i<=m.getD i 0*4294967296^i:=Int.mul_le_mul_of_nonneg_right om om
      rw[Int.add_mul] at h5
      omega
    · have h1:=ih om (λk h1 h2=>he k h1 om)
      rw[he n om om]
      omega
theorem ce:lim 0=[]:=by rw[lim];simp
theorem dm {n:Nat} (h:0<n):lim n=((n % 4294967296:Nat):Int) :: lim (n / 4294967296):=by rw[lim,dif_neg om]
theorem ap (n:Nat):Words (lim n):=by
  induction n using Nat.strongRecOn with
  | _ n ih=>
    by_cases h:n=0
    · subst h;rw[ce];exact Words.nil
    · rw[dm om]
      exact(ih _ (Nat.div_lt_self om om)).cons om om
theorem aK (n:Nat):val (lim n)=n:=by
  induction n using Nat.strongRecOn with
  | _ n ih=>
    by_cases h:n=0
    · subst h;rw[ce];rfl
    · have hw:=ap n
      rw[dm om] at hw ⊢
      rw[fA hw,ih _ (Nat.div_lt_self om om)]
      omega
theorem rm {l:List Int} (hw:Words l) (hlast:0<l.length->l.getD (l.length-1) 0≠0):lim (val l)=l:=by
  induction l with
  | nil=>exact ce
  | cons x l ih=>
    have hx:=hw 0
    have e0:(x :: l).getD 0 0=x:=by simp
    rw[e0] at hx
    rw[fA hw]
    have hpos:0<x.toNat+4294967296*val l:=by
      cases l with
      | nil=>have:=hlast (by simp);simp at this;omega
      | cons y l=>
        have h1:=ih hw.tail (λ_=>by have:=hlast (by simp);simpa using this)
        have:val (y :: l)≠0:=λh=>by rw[h,ce] at h1;cases h1
        omega
    rw[dm hpos]
    have h1:(x.toNat+4294967296*val l) % 4294967296=x.toNat:=om
    have h2:(x.toNat+4294967296*val l) / 4294967296=val l:=om
    rw[h1,h2,ih hw.tail (λhp=>by
      have:=hlast (by simp)
      cases l with
      | nil=>simp at hp
      | cons y l=>simpa using this)]
    congr 1
    omega
theorem kK {l:List Int} (hw:Words l) {j:Nat} (hj:j<=l.length) (hz:∀i,j<=i->i<l.length->l.getD i 0=0) (hlast:0<j->l.getD (j-1) 0≠0):l.take j=lim (val l):=by
  have h1:lim (val (l.take j))=l.take j:=rm (hw.take j) (λhp=>by
    have hlen:(l.take j).length=j:=by simp;omega
    rw[hlen] at hp ⊢
    have:=hlast hp
    rwa[List.getD_eq_getElem?_getD,List.getElem?_take_of_lt om,<-List.getD_eq_getElem?_getD])
  have h2:val (l.take j)=val l:=by
    have a:=bs (hw.take j)
    have b:=bs hw
    have hlen:(l.take j).length=j:=by simp;omega
    rw[hlen,q_ (Nat.le_refl _)] at a
    rw[iJ l.length hj hz] at b
    omega
  rw[<-h2,h1]
theorem cB {l:List Int} (hw:Words l):(lim (val l)).length<=l.length:=by
  have key:∀n,n<=l.length->(∀i,n<=i->i<l.length->l.getD i 0=0)->(lim (val l)).length<=n:=by
    intro n
    induction n with
    | zero=>intro h1 h2;rw[<-kK hw h1 h2 (λh=>om)];simp
    | succ n ih=>
      intro h1 h2
      by_cases h:l.getD n 0=0
      · have:=ih om (λi a b=>by
          by_cases e:i=n
          · subst e;exact h
          · exact h2 i om b)
        omega
      · rw[<-kK hw h1 h2 (λ_=>h)];simp;omega
  exact key l.length (Nat.le_refl _) (λi h1 h2=>om)
theorem cn {m n:Nat} (h:m<=n):(lim m).length<=(lim n).length:=by
  induction n using Nat.strongRecOn generalizing m with
  | _ n ih=>
    by_cases h0:m=0
    · subst h0;rw[ce];simp
    · rw[dm om,dm (by omega:0<n)]
      have:=ih (n / 4294967296) (Nat.div_lt_self om om) (Nat.div_le_div_right (c:=4294967296) h)
      simp;omega
theorem jX {l:List Int} (hw:Words l):val l<4294967296^l.length:=by
  have h1:=bs hw
  have h2:=(aV hw l.length).2
  have:((4294967296^l.length:Nat):Int)=(4294967296:Int)^l.length:=by simp
  omega
theorem eC {n k:Nat} (h:n<4294967296^k):(lim n).length<=k:=by
  induction n using Nat.strongRecOn generalizing k with
  | _ n ih=>
    by_cases h0:n=0
    · subst h0;rw[ce];simp
    · rw[dm om]
      cases k with
      | zero=>simp at h;omega
      | succ k=>
        have:=ih (n / 4294967296) (Nat.div_lt_self om om) (k:=k) (by
          rw[Nat.pow_succ] at h
          rw[Nat.div_lt_iff_lt_mul om]
          exact h)
        simp;omega
def iR (m n:Nat):Int:=if m<n then -1 else if m=n then 0 else 1
theorem iQ {m n:Nat}:iR m n<0↔m<n:=by
  unfold iR
  by_cases h:m<n
  · simp[h]
  · rw[if_neg h];split<;>omega
theorem iF (c p:Int):(c % 4294967296)*p+(c / 4294967296)*(p*4294967296)=c*p:=by
  have h:c=4294967296*(c / 4294967296)+c % 4294967296:=om
  generalize c / 4294967296=a at *
  generalize c % 4294967296=b at *
  subst h
  rw[Int.add_mul,Int.mul_comm p 4294967296,<-Int.mul_assoc,Int.mul_comm a 4294967296,Int.add_comm]
theorem qM {x y o c p:Int} (h:o+c*(p*4294967296)=x+y) (ho:0<=o) (hx:x<p) (hy:y<p) (h0:0<=c) (h1:c<=1) (hp:0<p):c=0:=by
  rcases (by omega:c=0\/c=1) with rfl | rfl
  · rfl
  · omega
theorem dK {l:List Int} {j:Nat} {x:Int} (hj:j<l.length):∀i,j<i->pv (l.set j x) i=pv l i+(x-l.getD j 0)*4294967296^j
  | 0,h=>om
  | i+1,h=>by
    rw[pv,pv]
    by_cases hij:j=i
    · subst hij
      rw[oo (Nat.le_refl _),fy hj,Int.sub_mul]
      omega
    · rw[dK hj i om,bx hij]
      omega
theorem jy {l:List Int} (hw:Words l) {i:Nat}:∀ {j:Nat},i<=j->pv l i<=pv l j
  | 0,h=>by
               have:i=0:=om
               subst this;exact Int.le_refl _
  | j+1,h=>by
    by_cases hij:i=j+1
    · subst hij;exact Int.le_refl _
    · have h1:=jy hw (show i<=j by omega)
      have h2:0<=l.getD j 0*4294967296^j:=Int.mul_nonneg (hw j).1 (by have:(0:Int)<4294967296^j:=Int.pow_pos om;omega)
      rw[pv]
      omega
theorem mR (x y b:Int) (hx:0<=x/\x<4294967296) (hy:0<=y/\y<4294967296) (hb:0<=b/\b<=1) :
    (IntKind.u64.wrap (IntKind.u64.wrap (x-y)-b) % 4294967296-4294967296*(IntKind.u64.wrap (IntKind.u64.wrap (x-y)-b) / 9223372036854775808)=x-y-b)/\
      0<=IntKind.u64.wrap (IntKind.u64.wrap (x-y)-b) / 9223372036854775808/\IntKind.u64.wrap (IntKind.u64.wrap (x-y)-b) / 9223372036854775808<=1:=by
  simp only[i8]
  omega
theorem pT {x y:Int} (hx:0<=x/\x<4294967296) (hy:0<=y/\y<4294967296):0<=x*y/\x*y<=18446744065119617025:=
  ⟨Int.mul_nonneg hx.1 hy.1,Int.le_trans (Int.mul_le_mul (by omega:x<=4294967295) (by omega:y<=4294967295) hy.1 om) om⟩
theorem c_ (i:Nat):(0:Int)<4294967296^i:=Int.pow_pos om
theorem kC {l:List Int} (hw:Words l) {n:Nat}:∀ {m:Nat},n<=m->pv l m<4294967296^n->pv l m=pv l n
  | 0,h,_=>by
                  have:n=0:=om
                  subst this;rfl
  | m+1,h,hlt=>by
    by_cases hn:n=m+1
    · subst hn;rfl
    · have h1:pv l m<=pv l (m+1):=jy hw om
      have h2:=kC hw (show n<=m by omega) om
      have h3:l.getD m 0=0:=by
        rcases Int.lt_or_le 0 (l.getD m 0) with hp | hp
        · exfalso
          have h4:(4294967296:Int)^n<=4294967296^m:=by
            have:(4294967296:Int)^m=4294967296^n*4294967296^(m-n):=by rw[<-Int.pow_add];congr 1;omega
            rw[this]
            have a1:(0:Int)<4294967296^n:=Int.pow_pos om
            have a2:(0:Int)<4294967296^(m-n):=Int.pow_pos om
            have a3:(4294967296:Int)^n*1<=4294967296^n*4294967296^(m-n):=Int.mul_le_mul_of_nonneg_left om om
            omega
          have h5:1*(4294967296:Int)^m<=l.getD m 0*4294967296^m:=Int.mul_le_mul_of_nonneg_right om (by have:(0:Int)<4294967296^m:=Int.pow_pos om;omega)
          have h6:=(aV hw m).1
          rw[pv] at hlt
          omega
        · have:=(hw m).1;omega
      rw[pv,h3,h2];omega
end Go.Gg
