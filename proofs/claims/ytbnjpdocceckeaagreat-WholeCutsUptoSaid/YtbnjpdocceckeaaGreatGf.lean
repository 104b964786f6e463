/- Loops over functions: the round, the iterator's contract, the statement. Conditions: none. -/
import Derived.Test.YtbnjpdocceckeaaGreatGd
set_option linter.all false
open Nat (beq)
namespace Go.Gg
open Go.RowKit (Below)
theorem Dj:∀(l:List (Nat×AV)) (j:Nat),(∀p∈l,p.1≠j)->aC l j = .Qz
 | [],_,_=>rfl
 | (k,v)::l,j,h=>by
  simp only[aC];have hk:beq j k=false:=by
   cases hk:beq j k with
   | true=>exact absurd (Nat.eq_of_beq_eq_true hk).symm (h (k,v) List.mem_cons_self)
   | false=>rfl
  rw[hk];exact Dj l j (λp hp=>h p (List.mem_cons_of_mem _ hp))
theorem Nk{G:Qh}{tm:Array Value}{l:List (Nat×AV)}(h:∀p∈l,VR G (aC l p.1) (tm.getD p.1 undef))(j:Nat):VR G (aC l j) (tm.getD j undef):=by
 by_cases hj:∃p∈l,p.1=j;·obtain⟨p,hp,rfl⟩:=hj;exact h p hp
 ·rw[Dj l j (λp hp hc=>hj ⟨p,hp,hc⟩)];exact .Qz _
def HA(t:Env):List Nat->List AV->Env
 | p::ps,v::vs=>HA (SR t p v) ps vs
 | _,_=>t
theorem Ah{n:Nat}{G:Qh}:∀(ps:List Nat) (vs:List Value) (as:List AV) (t:Env) (tm:Array Value),tm.size=n->(∀p∈ps,p<n)->vs.length=as.length->(∀i (h:i<as.length) (h':i<vs.length),VR G as[i] vs[i])->(∀j,VR G (t j) (tm.getD j undef))->((ps.zip vs).foldl (λt (p:Nat×Value)=>t.setIfInBounds p.1 p.2) tm).size=n/\∀j,VR G (HA t ps as j) (((ps.zip vs).foldl (λt (p:Nat×Value)=>t.setIfInBounds p.1 p.2) tm).getD j undef)
 | [],_,_,_,_,h1,_,_,_,h5=>⟨h1,λj=>by simpa[HA]using h5 j⟩
 | _::_,[],[],_,_,h1,_,_,_,h5=>⟨h1,λj=>by simpa[HA]using h5 j⟩
 | _::_,[],_::_,_,_,_,_,h3,_,_=>by simp at h3
 | _::_,_::_,[],_,_,_,_,h3,_,_=>by simp at h3
 | p::ps,v::vs,a::as,t,tm,h1,h2,h3,h4,h5=>by
  have hp:p<n:=h2 p List.mem_cons_self
  have ih:=Ah (n:=n) (G:=G) ps vs as (SR t p a) (tm.setIfInBounds p v) (by simpa using h1) (λq hq=>h2 q (List.mem_cons_of_mem _ hq)) (by simpa using h3)
   (λi h h'=>h4 (i+1) (by simpa using h) (by simpa using h')) (λj=>by
    unfold SR;split;·rename_i e;subst e;have QH:j<tm.size:=om;have h40:VR G a v:=h4 0 Qy Qy;simpa[Array.getD_eq_getD_getElem?,QH]using h40
    ·rename_i e;have:=h5 j;rw[Array.getD_eq_getD_getElem?]at this ⊢;rw[Array.getElem?_setIfInBounds_ne (λhc=>e hc.symm)];exact this)
  exact ih
def EH(P:Program)(rr gg:Nat)(rec:Loop)(ix:List Nat)(es:List AV)(xs:List (List AV))(I:Nat->St->Prop):Prop:=
 ∀i (hi:i<xs.length) (S:St) (G:Qh) (w:World) (v:Value) (vs:Array Value),I i S->Rel G S w->VR G (.yl rr 0 gg rec ix es) v->VRs G xs[i] vs->
  ∃l,v = .func (.yield l) #[] #[]/\w.heap[l]? = some (.loop rec)/\vs.size=rec.params.size/\
   RoundIn Fence.wide 0 P l rec.fn ((rec.params.zip vs).foldl (λtmps (t,a)=>tmps.setIfInBounds t a) rec.tmps) rec.assign rec.body w λe w'=>∃S' G',e = .returned (.bool true)/\I (i+1) S'/\G.le G'/\Rel G' S' w'
def zA(P:Program)(gf:FuncId)(QG:List AV)(xs:List (List AV)):Prop:=∀(rr gg:Nat) (rec:Loop) (ix:List Nat) (es:List AV) (I:Nat->St->Prop) (S:St),EH P rr gg rec ix es xs I->I 0 S->Ctr P gf (.yl rr 0 gg rec ix es::QG) S (λ_ S'=>I xs.length S')
variable{P:Program}{S:St}{n:Nat}{t:Env}
theorem Wl.yield{ops rest:List Oper}{K:Env->St->Prop}{d:Option Nat}{ty:TypeId}{pos:String}{after:Array Edge}{f:Operand}{as:Array Operand}{ts:Array TypeId}{rr gg:Nat}{rec:Loop}{ix:List Nat}{es:List AV}{xs:List (List AV)}{I:Nat->St->Prop}(hR:EH P rr gg rec ix es xs I)(i:Nat)(hi:i<xs.length)(hI:I i S)(hf:ev t f = .yl rr 0 gg rec ix es)(ha:as.toList.map (ev t)=xs[i])(h:∀S',I (i+1) S'->Wl P n ops rest K (dh t d (.bool true)) S'):Wl P n ops (⟨d,.call { callee:=.value f,args:=as,argTypes:=ts },ty,pos,after,none⟩::rest) K t S:=by
 intro QT ro G a w Q hr ht hQ;have hfv:=ht.eval f;rw[hf]at hfv;have V8:VRs G xs[i] (as.map a.eval):=by
  refine⟨by rw[<-ha];simp,λj h1 h2=>?_⟩;have hj:j<as.size:=by simpa using h2
  have e:xs[i][j]=ev t as[j]:=by simp[<-ha]
  rw[e];simp only[Array.getElem_map];exact ht.eval _
 obtain⟨l,hv,hl,hs,UB⟩:=hR i hi S G w _ _ hI hr hfv V8;have RI:(execOp a.eval (⟨d,.call { callee:=.value f,args:=as,argTypes:=ts },ty,pos,after,none⟩:Oper)).run P w = .ok (.round l rec.fn ((rec.params.zip (as.map a.eval)).foldl (λtmps (t,a)=>tmps.setIfInBounds t a) rec.tmps) rec.assign rec.body) w:=by have hy:=run_yield (P:=P) (args:=as.map a.eval) hl hs;simp[execOp,resolve,hv,Deferred.ofValue,invoke,callFunc]at hy ⊢;exact hy
 unfold wpListIn;rw[if_pos (by simp[Region.wanted])];refine⟨λ_ _=>trivial,?_⟩;rw[Oper.semAt_eq _ _ _ (rV RI (λd e=>by cases e)),RI];refine⟨(λhc=>by cases hc),?_⟩;refine RoundIn.mono UB (λe w' he=>?_);obtain⟨S',G',rfl,hI',hle,SQ⟩:=he;exact h S' hI' (λo ho=>QT o (by simp[ho])) ro G' _ w' Q SQ ((ht.mono hle).put (QT _ List.mem_cons_self) (.bool true)) (λa w hl=>hQ a w (Gg.QP hl hle))
variable{S0:St}{rg:Nat}
theorem pC{rr k gg:Nat}{L:dG}{o:QW}(QI:rr≠rg):(Qr S0 rg L).set rr k o gg=Qr (S0.set rr k o gg) rg L:=by
 funext r j;simp only[St.set,Qr];by_cases h:r=rg;·subst h;rw[if_neg (λhc=>QI hc.1.symm)];simp
 ·simp[h]
theorem St.XC{r k g:Nat}{o o':QW}:(S.set r k o g).set r k o' g=S.set r k o' g:=by funext a b;simp only[St.set];split<;>rfl
variable{ex:Nat->Env->St->Prop}{es0:List (Nat×AV)}{QG:List AV}{g:Operand}{gf:FuncId}{σ:Type}{t0:Env}{l0:dG}
theorem Vc.Y3{ps:Array Tmp}{assign body:Code}{Q8 ret:Env->St->Prop}{xs:List (List AV)}(Inv:Nat->σ->Prop)(Z:σ->dG)(y0:σ)(hx:Rm t0 (Qr S0 rg l0) (aC es0) (Qr S0 rg (Z y0)))(hg:ev (aC es0) g = .fn (.func gf) [] QG)(hit:zA P gf QG xs)(hcal:kN P gf=true)(hlen:∀x∈xs,x.length=ps.size)(h0:Inv 0 y0)(UB:∀i (hi:i<xs.length) y,Inv i y->∀S1,Vc P n assign ⟨λt1 S2=>∃L,S2=Qr S1 rg L/\∀S3,Vc P n body ⟨λt4 S4=>∃z,Rm t4 S4 (aC []) (Qr S3 rg (Z z))/\Inv (i+1) z,λ_ _ _=>False,λ_ _=>False⟩ t1 (Qr S3 rg L),λ_ _ _=>False,λ_ _=>False⟩ (HA (aC es0) ps.toList xs[i]) (Qr S1 rg (Z y)))(Yb:∀y,Inv xs.length y->Q8 (aC es0) (Qr S0 rg (Z y))):Vc P n (.rangeFunc g ps assign body) ⟨Q8,ex,ret⟩ t0 (Qr S0 rg l0):=by
 refine Vc.wk hx ?_;intro ro QT G a w hr ht;simp only[kL,Bool.and_eq_true]at QT;obtain⟨⟨⟨WZ,hps⟩,ag2⟩,ag1⟩:=QT;obtain rfl:ro=none:=by
  cases ro with
  | none=>rfl
  | some l=>simp at WZ
 refine wpIn_rangeFunc (λfn _=>?_);let G1:Qh:={ G with Xa:=λb=>G.Xa b\/b=w.heap.size };have YB:G.le G1:=⟨⟨rfl,λ_ h=>.inl h,rfl⟩,λ_ _ _ e=>e,λ_ _ _ _ e=>e⟩
 have TH:Rel G1 (Qr S0 rg (Z y0)) (w.alloc (.deferred (some []))):=hr.turn rfl rfl rfl (World.grownBy_alloc w _ none) (λb e=>by cases e)
  (λb hb=>by
   rcases hb with hb|rfl;·have h1:=hr.below.2.1 b hb;exact(Below.heap_alloc w _ b (Array.getElem?_eq_some_iff.1 h1).1).trans h1
   ·exact World.alloc_heap_new w _) (Nat.le_trans hr.below.2.2 Qy)
 generalize hw1:w.alloc (.deferred (some []))=w1 at TH;obtain⟨N,hN⟩:=TH.fin;obtain⟨rr,X4⟩:∃rr,rr=max N (rg+1):=⟨_,rfl⟩;have QI:rr≠rg:=om;obtain⟨gg,hgg⟩:=TH.fresh rr 0;obtain⟨rec,Ug⟩:∃rec:Loop,rec = { state:=.ready,pending:=none,fn,tmps:=a.tmps,params:=ps,assign,body,defers:=w.heap.size }:=⟨_,rfl⟩;obtain⟨G2,le2,acY,_,Vk⟩:=TH.put (World.grownBy_alloc w1 (.loop rec) none) rr 0 gg (.lp rec) ⟨w1.heap.size,1,0,0⟩ (λb e=>by cases e) (λ_=>.inl (Nat.le_refl _)) (.inl hgg) (λG' _=>⟨Nat.one_pos,World.alloc_heap_new w1 _⟩);rw[pC QI]at Vk;have SS:w1.heap.size=w.heap.size+1:=by rw[<-hw1];simp
 have hgv:=(ht.mono (YB.trans le2)).eval g;rw[hg]at hgv;generalize Up:a.eval g=cv at hgv;cases hgv with
 | fn _ _ _ fs cs q1 q2 q3 q4=>
 have hfs:fs = #[]:=by
  have:fs.size=0:=by simpa using q1
  exact Array.eq_empty_of_size_eq_zero this
 subst hfs;have htm:a.tmps.size=n:=ht.2.1;have VS:∀ {G:Qh} {w:World} {rc:Loop} {S:St} {L:Loc},Rel G (S.set rr 0 (.lp rc) gg) w->G.loc rr 0 gg=some L->0<L.cap/\w.heap[L.block]? = some (.loop rc):=by intro G w rc S L h hL;obtain⟨L',h1,h2,_⟩:=h.obj rr 0 (.lp rc) gg (by simp[St.set]);rw[hL]at h1;cases h1;exact h2
 have XZ:∀ {G:Qh} {w:World} {rc:Loop} {S:St} {L:Loc} (rc':Loop),Rel G (S.set rr 0 (.lp rc) gg) w->G.loc rr 0 gg=some L->∃G',G.le G'/\Rel G' (S.set rr 0 (.lp rc') gg) (w.putObj L.block (.loop rc')):=by
  intro G w rc S L rc' h hL;have ho:=VS h hL;have held:JD G (S.set rr 0 (.lp rc) gg) rr 0 L.block:=⟨.lp rc,gg,L,by simp[St.set],hL,ho.1,rfl⟩
  obtain⟨G',a1,_,_,a4⟩:=h.put (grownBy_putObj' w L.block (.loop rc')) rr 0 gg (.lp rc') L (λb e=>by cases e;exact held) (λ_=>.inr held) (.inr hL)
   (λG' _=>⟨ho.1,World.putObj_heap_same (Array.getElem?_eq_some_iff.1 ho.2).1⟩)
  rw[St.XC]at a4;exact⟨G',a1,a4⟩
 let I:Nat->St->Prop:=λi S=>∃y,Inv i y/\S=(Qr S0 rg (Z y)).set rr 0 (.lp rec) gg;have hR:EH P rr gg rec (es0.map (·.1)) (es0.map λp=>aC es0 p.1) xs I:=by
  intro i hi S G3 w3 v vs hIi hr3 hv V8;obtain⟨y,hy,rfl⟩:=hIi;cases hv with
  | yl _ _ _ _ _ _ L hL ahv=>
  have ho:=VS hr3 hL;have RP:vs.size=rec.params.size:=by rw[V8.1,Ug];exact hlen _ (List.getElem_mem hi)
  refine⟨L.block,rfl,ho.2,RP,roundIn_of_wpIn trivial ?_⟩;have ad9:∀j,VR G3 (aC es0 j) (rec.tmps.getD j undef):=Nk (λp hp=>by
   obtain⟨k,hk,rfl⟩:=List.mem_iff_getElem.1 hp;have:=ahv k (by simpa using hk) (by simpa using hk);simpa using this)
  have adE:=Ah (n:=n) (G:=G3) ps.toList vs.toList xs[i] (aC es0) rec.tmps (by rw[Ug];exact htm)
   (λp hp=>by
    have:=Array.all_eq_true_iff_forall_mem.1 hps p (by simpa using hp);simpa using this)
   (by simpa using V8.1) (λj h h'=>by simpa using V8.2 j h (by simpa using h')) ad9
  have ad8:(rec.params.zip vs).foldl (λtmps (t,a)=>tmps.setIfInBounds t a) rec.tmps=(ps.toList.zip vs.toList).foldl (λt (p:Nat×Value)=>t.setIfInBounds p.1 p.2) rec.tmps:=by rw[<-Array.foldl_toList,Array.toList_zip,Ug]
  rw[ad8];have has:rec.assign=assign:=by rw[Ug]
  have V':rec.body=body:=by rw[Ug]
  rw[has,V'];rw[pC QI]at hr3;refine wpIn_mono (UB i hi y hy _ (some L.block) ag2 G3 ⟨_,[]⟩ w3 hr3 ⟨sQ.nil _,adE.1,adE.2⟩) (λe a3 w4 he=>?_);cases e with
  | normal=>
   obtain⟨t1,S2,G4,⟨F,rfl,hb⟩,le4,hr4,ht4⟩:=he;rw[<-pC QI]at hr4;have hL4:=le4.loc _ _ _ _ hL;have ho4:=VS hr4 hL4;obtain⟨G5,le5,hr5⟩:=XZ { rec with state:=.busy } hr4 hL4;refine⟨_,run_beginRound ho4.2 (by rw[Ug]),?_⟩;rw[pC QI]at hr5;refine wpIn_mono (hb _ (some L.block) ag1 G5 a3 _ hr5 (ht4.mono le5)) (λe a5 w5 he=>?_);cases e with
   | normal=>
    obtain⟨t5,S5,G6,⟨z,hw,hz⟩,le6,hr6,ht6⟩:=he;obtain⟨G7,le7,hr7,_⟩:=hw n G6 a5 w5 hr6 ht6;rw[<-pC QI]at hr7;have hL7:=le7.loc _ _ _ _ (le6.loc _ _ _ _ (le5.loc _ _ _ _ hL4));have ho7:=VS hr7 hL7;have ahw:({ { rec with state:=.busy }with state:=if (none:Option Code).isNone then .ready else .done,pending:=none }:Loop)=rec:=by rw[Ug];rfl
    obtain⟨G8,le8,hr8⟩:=XZ rec hr7 hL7;have RI:=run_endRound (P:=P) none ho7.2;rw[ahw]at RI;exact⟨_,_,RI,_,G8,rfl,⟨z,hz,rfl⟩,(((le4.trans le5).trans le6).trans le7).trans le8,hr8⟩
   | exit id=>obtain⟨_,_,_,h,_⟩:=he;exact h.elim
   | ret=>obtain⟨_,_,_,h,_⟩:=he;exact h.elim
   | goto l=>exact he.elim
   | panic c=>exact he.elim
   | outgrown=>exact he.elim
  | exit id=>obtain⟨_,_,_,h,_⟩:=he;exact h.elim
  | ret=>obtain⟨_,_,_,h,_⟩:=he;exact h.elim
  | goto l=>exact he.elim
  | panic c=>exact he.elim
  | outgrown=>exact he.elim
 have ahB:=hit rr gg rec (es0.map (·.1)) (es0.map λp=>aC es0 p.1) I ((Qr S0 rg (Z y0)).set rr 0 (.lp rec) gg) hR ⟨y0,h0,rfl⟩;rw[<-pC QI]at Vk;have hyl:VR G2 (.yl rr 0 gg rec (es0.map (·.1)) (es0.map λp=>aC es0 p.1)) (.func (.yield w1.heap.size) #[] #[]):=by refine .yl rr 0 gg rec _ _ _ acY (λi h h'=>?_);have:=(ht.mono (YB.trans le2)).2.2 (es0.map (·.1))[i];rw[Ug];simpa using this
 have Ye:=ahB.2 G2 (w1.alloc (.loop rec)) (#[.func (.yield w1.heap.size) #[] #[]]++cs) Vk ⟨by simp;omega,λi h h'=>?_⟩
 ·refine⟨w.heap.size+1,[{ target:=.collected w.heap.size,args:=#[] }],w1.alloc (.loop rec),{ target:=.fn (.func gf) cs,args:=#[.func (.yield (w.heap.size+1)) #[] #[]] },w1.alloc (.loop rec),gf,
   #[.func (.yield (w.heap.size+1)) #[] #[]]++cs,w1.alloc (.loop rec),?_,?_,?_,?_,(λhc=>by cases hc),?_⟩
  ·rw[<-hw1,Ug];exact run_enterLoop_outer _ _ _ _ _
  ·simp only[resolve,Up];simp[go_sem]
  ·intro f' _;trivial
  ·unfold kN at hcal;cases hfn:P.funcs[gf]? with
   | none=>simp[hfn]at hcal
   | some fn=>
   simp only[hfn,Bool.and_eq_true,Bool.not_eq_true']at hcal;have hb:fn.body≠none:=by intro e;simp[e]at hcal
   have hnm : fn.name ≠ "runtime.NumGoroutine" := by simpa using hcal.1
   simp[invoke,callFunc,hfn,hnm,hb]
  ·rw[SS]at Ye;have Sw:CallsIn (Xr none) (0-1) P gf (#[.func (.yield (w.heap.size+1)) #[] #[]]++cs) (w1.alloc (.loop rec)) _:=callsIn_wide.2 Ye;refine CallsIn.mono Sw (λe w3 he=>?_);obtain⟨v,av,S',G',rfl,⟨y,hy,rfl⟩,hle,SQ,_⟩:=he;have hL:=hle.loc _ _ _ _ acY;have ho:=VS SQ hL;have hblk:w1.heap.size=w.heap.size+1:=SS;have RI:=run_endLoop (P:=P) ho.2 (by rw[Ug];simp);have adD:rec.pending=none:=by rw[Ug]
   rw[adD]at RI;obtain⟨G'',adZ,adv⟩:=XZ { rec with state:=.exhausted } SQ hL;have hex:({ rec with state:=.exhausted }:Loop) = { state:=.exhausted,pending:=none,fn:=rec.fn,tmps:=rec.tmps,params:=rec.params,assign:=rec.assign,body:=rec.body,defers:=rec.defers }:=by rw[Ug]
   simp only[hex,hblk]at RI adv;refine⟨none,_,RI,?_⟩;have leA:=(YB.trans le2).trans (hle.trans adZ);refine⟨aC es0,Qr S0 rg (Z y),G'',Yb y hy,leA,adv.sub (λr k x hx=>?_),?_,htm,λi=>(ht.2.2 i).mono leA⟩
   ·simp only[St.set];split;·rename_i hc;rw[hc.1,hc.2]at hx;have h1:=hN rr om 0;rw[qY QI]at h1 hx;rw[h1]at hx;cases hx
    ·exact hx
   ·have hm:=ht.1;refine⟨List.nodup_cons.2 ⟨λhc=>?_,hm.1⟩,λd hd=>?_⟩;·obtain⟨D,h1,_,h3⟩:=hm.2 _ hc;have:=Ei h1;subst this;have:=(Array.getElem?_eq_some_iff.1 (hr.below.2.1 _ h3)).1;omega
    ·rcases List.mem_cons.1 hd with rfl|hd;·exact⟨w.heap.size,rfl,by rw[leA.init.2.2];exact hr.below.2.2,(le2.trans (hle.trans adZ)).init.2.1 _ (.inr rfl)⟩
     ·obtain⟨D,h1,h2,h3⟩:=hm.2 _ hd;exact⟨D,h1,by rw[leA.init.2.2];exact h2,leA.init.2.1 _ h3⟩
 ·cases i with
  | zero=>simpa using hyl
  | succ i=>
   have h1:i<QG.length:=by simpa using h
   have h2:i<cs.size:=by simp at h';omega
   have:=q4 i h1 h2;simp only[List.getElem_cons_succ];rw[Array.getElem_append_right Qy];simpa using this
def wj{α:Type}[Inhabited α](enc:α->AV)(l:List α):List (List AV):=(List.range l.length).map λi:Nat=>[.int .i64 ((l.length:Int)-1-(i:Int)),enc (P9 l ((l.length:Int)-1-(i:Int)))]
variable{α:Type}{enc:α->AV}{l:List α}
theorem si[Inhabited α]:(wj enc l).length=l.length:=by simp[wj]
theorem vK[Inhabited α]{i:Nat}(h:i<(wj enc l).length):(wj enc l)[i]=[.int .i64 ((l.length:Int)-1-(i:Int)),enc (P9 l ((l.length:Int)-1-(i:Int)))]:=by simp[wj]
def O9{α σ:Type}[Inhabited α](l:List α)(init:σ)(body:Int->α->σ->(σ->Prop)->Prop)(k:σ->Prop):Prop:=Qe (l.length:Int)/\∃I:Nat->σ->Prop,I 0 init/\(∀i:Nat,i<l.length->∀(j:Int) (x:α),j=(l.length:Int)-1-(i:Int)->x=P9 l j->∀y,I i y->body j x y (λz=>I (i+1) z))/\∀y,I l.length y->k y
theorem Vc.WS[Inhabited α]{p0 p1:Nat}{assign body:Code}{Q8 ret:Env->St->Prop}(Inv:Nat->σ->Prop)(Z:σ->dG)(y0:σ)(hx:Rm t0 (Qr S0 rg l0) (aC es0) (Qr S0 rg (Z y0)))(hg:ev (aC es0) g = .fn (.func gf) [] QG)(hit:zA P gf QG (wj enc l))(hcal:kN P gf=true)(h0:Inv 0 y0)(UB:∀i,i<l.length->∀(j:Int) (x:α),j=(l.length:Int)-1-(i:Int)->x=P9 l j->∀y,Inv i y->∀S1,Vc P n assign ⟨λt1 S2=>∃L,S2=Qr S1 rg L/\∀S3,Vc P n body ⟨λt4 S4=>∃z,Rm t4 S4 (aC []) (Qr S3 rg (Z z))/\Inv (i+1) z,λ_ _ _=>False,λ_ _=>False⟩ t1 (Qr S3 rg L),λ_ _ _=>False,λ_ _=>False⟩ (SR (SR (aC es0) p0 (.int .i64 j)) p1 (enc x)) (Qr S1 rg (Z y)))(Yb:∀y,Inv l.length y->Q8 (aC es0) (Qr S0 rg (Z y))):Vc P n (.rangeFunc g #[p0,p1] assign body) ⟨Q8,ex,ret⟩ t0 (Qr S0 rg l0):=by
 refine Vc.Y3 (xs:=wj enc l) Inv Z y0 hx hg hit hcal (λx hx=>?_) h0 (λi hi y hy S1=>?_) (λy hy=>Yb y (by rw[si]at hy;exact hy));·obtain⟨i,hi,rfl⟩:=List.mem_iff_getElem.1 hx;rw[vK];rfl
 ·rw[vK];exact UB i (by rw[si]at hi;exact hi) _ _ rfl rfl y hy S1
theorem Jc{es:List (Nat×AV)}(hf:Fit t es):Rm t S (aC es) S:=λ_ G _ _ hr ht=>⟨G,Qh.le.refl G,hr,ht.1,ht.2.1,λi=>hf.vw i G _ (ht.2.2 i)⟩
variable{e:Option Int}{T:TypeId}
theorem sE0:beq (bd T e).cells.length 1=true:=by cases e<;>rfl
theorem sE1{off kk:Nat}(h:Nat.ble (off+1) kk=true):(Nat.ble (off+1) kk&&fo (bd T e).cells)=true:=by rw[h];cases e<;>rfl
theorem sE2:(bd T e).cells.getD 0 .Qz=bd T e:=by cases e<;>rfl
theorem Ho{k:IntKind}{m q:Int}(h:m=q):VW (.int k m) (.int k q):=h▸VW.refl _
theorem GO{R:AV->St->Prop}{k g:Nat}{l:dG}{f:Fn}{v:AV}(SY:∀k,S rg k=none)(hv:v.cells.length=1)(hS:SK l k=some (.arr 1 [v],g))(h:R (.fn f [] [.Q2 (AV.cells v)]) S):dz R (.fn f [] [.ptr rg k g 0 0]) (Qr S rg l):=by
 intro G w x hr hx;obtain⟨G',hle,SQ,L,a1,a2,a3,a4,a5,u,a6,a7⟩:=hr.freeze (r:=rg) (k:=k) (by rw[jD];exact hS);refine⟨_,S,G',h,hle,SQ.sub (λr j o e=>?_),?_⟩
 ·simp only[St.del];split;·rename_i hc;rw[hc.1,SY]at e;cases e
  ·rename_i hc;by_cases X4:r=rg;·rw[X4,SY]at e;cases e
   ·rw[qY X4];exact e
 ·cases hx with
  | fn _ _ _ fs cs q1 q2 q3 q4=>
  refine .fn f [] _ fs cs q1 (by simpa using q2) (λi h=>by simp at h) (λi h1 h2=>?_);have hi:i=0:=by simpa using h1
  subst hi;have hp:=q4 0 Qy h2;simp only[List.getElem_cons_zero]at hp ⊢;generalize cs[0]=c at hp;cases hp with
  | ptr _ _ _ _ _ L' R5=>
  rw[a1]at R5;cases R5;refine .Q2 _ _ _ (λj=>u 0 j) (λj hj=>?_) (λj hj=>?_);·have:=a6 0 j Qy om;simpa using this
  ·exact a7 0 Qy j (by simpa using hj)
end Go.Gg
