/- Loops over functions: the round, the iterator's contract, the statement. Conditions: none. -/
import Derived.Test.YtaphmailhjfiaaaGd
namespace Go.Gg
open Go.RowKit (Below)
theorem pt:∀(l:List (Nat×AV)) (j:Nat),(∀p∈l,p.1≠j)->aw l j = .junk
  | [],_,_=>rfl
  | (k,v) :: l,j,h=>by
    simp only[aw]
    have hk:Nat.beq j k=false:=by
      cases hk:Nat.beq j k with
      | true=>exact absurd (Nat.eq_of_beq_eq_true hk).symm (h (k,v) List.mem_cons_self)
      | false=>rfl
    rw[hk]
    exact pt l j (λp hp=>h p (List.mem_cons_of_mem _ hp))
theorem vK {G:Ghost} {tm:Array Value} {l:List (Nat×AV)} (h:∀p∈l,VR G (aw l p.1) (tm.getD p.1 undef)) (j:Nat):VR G (aw l j) (tm.getD j undef):=by
  by_cases hj:∃p∈l,p.1=j
  · obtain⟨p,hp,rfl⟩:=hj
    exact h p hp
  · rw[pt l j (λp hp hc=>hj ⟨p,hp,hc⟩)]
    exact .junk _
def sI (t:Env):List Nat->List AV->Env
  | p :: ps,v :: vs=>sI (upd t p v) ps vs
  | _,_=>t
theorem nk {n:Nat} {G:Ghost}:∀(ps:List Nat) (vs:List Value) (as:List AV) (t:Env) (tm:Array Value),tm.size=n->(∀p∈ps,p<n)->vs.length=as.length->(∀i (h:i<as.length) (h':i<vs.length),VR G as[i] vs[i])->(∀j,VR G (t j) (tm.getD j undef))->
    ((ps.zip vs).foldl (λt (p:Nat×Value)=>t.setIfInBounds p.1 p.2) tm).size=n/\∀j,VR G (sI t ps as j) (((ps.zip vs).foldl (λt (p:Nat×Value)=>t.setIfInBounds p.1 p.2) tm).getD j undef)
  | [],_,_,_,_,h1,_,_,_,h5=>⟨h1,λj=>by simpa[sI] using h5 j⟩
  | _ :: _,[],[],_,_,h1,_,_,_,h5=>⟨h1,λj=>by simpa[sI] using h5 j⟩
  | _ :: _,[],_ :: _,_,_,_,_,h3,_,_=>by simp at h3
  | _ :: _,_ :: _,[],_,_,_,_,h3,_,_=>by simp at h3
  | p :: ps,v :: vs,a :: as,t,tm,h1,h2,h3,h4,h5=>by
    have hp:p<n:=h2 p List.mem_cons_self
    have ih:=nk (n:=n) (G:=G) ps vs as (upd t p a) (tm.setIfInBounds p v) (by simpa using h1) (λq hq=>h2 q (List.mem_cons_of_mem _ hq)) (by simpa using h3)
      (λi h h'=>h4 (i+1) (by simpa using h) (by simpa using h')) (λj=>by
        unfold upd
        split
        · rename_i e
          subst e
          have hlt:j<tm.size:=om
          have h40:VR G a v:=h4 0 (by simp) (by simp)
          simpa[Array.getD_eq_getD_getElem?,hlt] using h40
        · rename_i e
          have:=h5 j
          rw[Array.getD_eq_getD_getElem?] at this ⊢
          rw[Array.getElem?_setIfInBounds_ne (λhc=>e hc.symm)]
          exact this)
    exact ih
def qi (P:Program) (rr gg:Nat) (rec:Loop) (ix:List Nat) (es:List AV) (xs:List (List AV)) (I:Nat->St->Prop):Prop:=
  ∀i (hi:i<xs.length) (S:St) (G:Ghost) (w:World) (v:Value) (vs:Array Value),I i S->Rel G S w->VR G (.yl rr 0 gg rec ix es) v->VRs G xs[i] vs->
    ∃l,v = .func (.yield l) #[] #[]/\w.heap[l]? = some (.loop rec)/\vs.size=rec.params.size/\
      RoundIn Fence.wide 0 P l rec.fn ((rec.params.zip vs).foldl (λtmps (t,a)=>tmps.setIfInBounds t a) rec.tmps) rec.assign rec.body w λe w'=>∃S' G',e = .returned (.bool true)/\I (i+1) S'/\G.le G'/\Rel G' S' w'
def mY (P:Program) (gf:FuncId) (caps:List AV) (xs:List (List AV)):Prop:=
  ∀(rr gg:Nat) (rec:Loop) (ix:List Nat) (es:List AV) (I:Nat->St->Prop) (S:St),qi P rr gg rec ix es xs I->I 0 S->Ctr P gf (.yl rr 0 gg rec ix es :: caps) S (λ_ S'=>I xs.length S')
theorem Wl.yield {P:Program} {n:Nat} {ops rest:List Oper} {K:Env->St->Prop} {t:Env} {S:St} {d:Option Nat} {ty:TypeId} {pos:String} {after:Array Edge} {f:Operand} {as:Array Operand} {ts:Array TypeId}
    {rr gg:Nat} {rec:Loop} {ix:List Nat} {es:List AV} {xs:List (List AV)} {I:Nat->St->Prop} (hR:qi P rr gg rec ix es xs I) (i:Nat) (hi:i<xs.length) (hI:I i S) (hf:ev t f = .yl rr 0 gg rec ix es)
    (ha:as.toList.map (ev t)=xs[i]) (h:∀S',I (i+1) S'->Wl P n ops rest K (b9 t d (.bool true)) S'):Wl P n ops (⟨d,.call { callee:=.value f,args:=as,argTypes:=ts },ty,pos,after,none⟩ :: rest) K t S:=by
  intro hok ro G a w Q hr ht hQ
  have hfv:=ht.eval f
  rw[hf] at hfv
  have hvs:VRs G xs[i] (as.map a.eval):=by
    refine⟨by rw[<-ha];simp,λj h1 h2=>?_⟩
    have hj:j<as.size:=by simpa using h2
    have e:xs[i][j]=ev t as[j]:=by simp[<-ha]
    rw[e]
    simp only[Array.getElem_map]
    exact ht.eval _
  obtain⟨l,hv,hl,hs,hround⟩:=hR i hi S G w _ _ hI hr hfv hvs
  have hrun:(execOp a.eval (⟨d,.call { callee:=.value f,args:=as,argTypes:=ts },ty,pos,after,none⟩:Oper)).run P w = .ok (.round l rec.fn ((rec.params.zip (as.map a.eval)).foldl (λtmps (t,a)=>tmps.setIfInBounds t a) rec.tmps) rec.assign rec.body) w:=by
    have hy:=run_yield (P:=P) (args:=as.map a.eval) hl hs
    simp[execOp,resolve,hv,Deferred.ofValue,invoke,callFunc] at hy ⊢
    exact hy
  unfold wpListIn
  rw[if_pos (by simp[Region.wanted])]
  refine⟨λ_ _=>trivial,?_⟩
  rw[Oper.semAt_eq _ _ _ (ji hrun (λd e=>by cases e)),hrun]
  refine⟨(λhc=>by cases hc),?_⟩
  refine RoundIn.mono hround (λe w' he=>?_)
  obtain⟨S',G',rfl,hI',hle,hr'⟩:=he
  exact h S' hI' (λo ho=>hok o (by simp[ho])) ro G' _ w' Q hr' ((ht.mono hle).put (hok _ List.mem_cons_self) (.bool true)) (λa w hl=>hQ a w (Gg.lift_mono hl hle))
theorem hY {S0:St} {rg rr k gg:Nat} {L:cp} {o:GObj} (hne:rr≠rg):(stL S0 rg L).set rr k o gg=stL (S0.set rr k o gg) rg L:=by
  funext r j
  simp only[St.set,stL]
  by_cases h:r=rg
  · subst h
    rw[if_neg (λhc=>hne hc.1.symm)]
    simp
  · simp[h]
theorem St.set_set' {S:St} {r k g:Nat} {o o':GObj}:(S.set r k o g).set r k o' g=S.set r k o' g:=by
  funext a b
  simp only[St.set]
  split<;>rfl
theorem Vc.rangeFn {P:Program} {n:Nat} {g:Operand} {ps:Array Tmp} {assign body:Code} {nrm ret:Env->St->Prop} {ex:Nat->Env->St->Prop} {t0:Env} {es0:List (Nat×AV)} {S0:St} {rg:Nat} {l0:cp} {gf:FuncId} {caps:List AV} {xs:List (List AV)} {σ:Type}
    (Inv:Nat->σ->Prop) (Z:σ->cp) (y0:σ) (hx:EWk t0 (stL S0 rg l0) (aw es0) (stL S0 rg (Z y0))) (hg:ev (aw es0) g = .fn (.func gf) [] caps) (hit:mY P gf caps xs) (hcal:gF P gf=true) (hlen:∀x∈xs,x.length=ps.size) (h0:Inv 0 y0)
    (hround:∀i (hi:i<xs.length) y,Inv i y->∀S1,Vc P n assign ⟨λt1 S2=>∃L,S2=stL S1 rg L/\∀S3,Vc P n body ⟨λt4 S4=>∃z,EWk t4 S4 (aw []) (stL S3 rg (Z z))/\Inv (i+1) z,λ_ _ _=>False,λ_ _=>False⟩ t1 (stL S3 rg L),λ_ _ _=>False,λ_ _=>False⟩ (sI (aw es0) ps.toList xs[i]) (stL S1 rg (Z y)))
    (hdone:∀y,Inv xs.length y->nrm (aw es0) (stL S0 rg (Z y))):Vc P n (.rangeFunc g ps assign body) ⟨nrm,ex,ret⟩ t0 (stL S0 rg l0):=by
  refine Vc.wk hx ?_
  intro ro hok G a w hr ht
  simp only[fe,Bool.and_eq_true] at hok
  obtain⟨⟨⟨hro,hps⟩,hoka⟩,hokb⟩:=hok
  obtain rfl:ro=none:=by
    cases ro with
    | none=>rfl
    | some l=>simp at hro
  refine wpIn_rangeFunc (λfn _=>?_)
  let G1:Ghost:={ G with dfr:=λb=>G.dfr b\/b=w.heap.size }
  have le1:G.le G1:=⟨⟨rfl,λ_ h=>.inl h,rfl⟩,λ_ _ _ e=>e,λ_ _ _ _ e=>e⟩
  have hr1:Rel G1 (stL S0 rg (Z y0)) (w.alloc (.deferred (some []))):=hr.turn rfl rfl rfl (World.grownBy_alloc w _ none) (λb e=>by cases e)
    (λb hb=>by
      rcases hb with hb | rfl
      · have h1:=hr.below.2.1 b hb
        exact(Below.heap_alloc w _ b (Array.getElem?_eq_some_iff.1 h1).1).trans h1
      · exact World.alloc_heap_new w _) (Nat.le_trans hr.below.2.2 (by simp))
  generalize hw1:w.alloc (.deferred (some []))=w1 at hr1
  obtain⟨N,hN⟩:=hr1.fin
  obtain⟨rr,hrr⟩:∃rr,rr=max N (rg+1):=⟨_,rfl⟩
  have hne:rr≠rg:=om
  obtain⟨gg,hgg⟩:=hr1.fresh rr 0
  obtain⟨rec,hrec⟩:∃rec:Loop,rec = { state:=.ready,pending:=none,fn,tmps:=a.tmps,params:=ps,assign,body,defers:=w.heap.size }:=⟨_,rfl⟩
  obtain⟨G2,le2,loc2,_,hr2⟩:=hr1.put (World.grownBy_alloc w1 (.loop rec) none) rr 0 gg (.lp rec) ⟨w1.heap.size,1,0,0⟩ (λb e=>by cases e) (λ_=>.inl (Nat.le_refl _)) (.inl hgg) (λG' _=>⟨Nat.one_pos,World.alloc_heap_new w1 _⟩)
  rw[hY hne] at hr2
  have hl2:w1.heap.size=w.heap.size+1:=by rw[<-hw1];simp
  have hgv:=(ht.mono (le1.trans le2)).eval g
  rw[hg] at hgv
  generalize hcv:a.eval g=cv at hgv
  cases hgv with
  | fn _ _ _ fs cs q1 q2 q3 q4=>
  have hfs:fs = #[]:=by
    have:fs.size=0:=by simpa using q1
    exact Array.eq_empty_of_size_eq_zero this
  subst hfs
  have htm:a.tmps.size=n:=ht.2.1
  have hrecO:∀ {G:Ghost} {w:World} {rc:Loop} {S:St} {L:Loc},Rel G (S.set rr 0 (.lp rc) gg) w->G.loc rr 0 gg=some L->0<L.cap/\w.heap[L.block]? = some (.loop rc):=by
    intro G w rc S L h hL
    obtain⟨L',h1,h2,_⟩:=h.obj rr 0 (.lp rc) gg (by simp[St.set])
    rw[hL] at h1
    cases h1
    exact h2
  have hturn:∀ {G:Ghost} {w:World} {rc:Loop} {S:St} {L:Loc} (rc':Loop),Rel G (S.set rr 0 (.lp rc) gg) w->G.loc rr 0 gg=some L->∃G',G.le G'/\Rel G' (S.set rr 0 (.lp rc') gg) (w.putObj L.block (.loop rc')):=by
    intro G w rc S L rc' h hL
    have ho:=hrecO h hL
    have held:tR G (S.set rr 0 (.lp rc) gg) rr 0 L.block:=⟨.lp rc,gg,L,by simp[St.set],hL,ho.1,rfl⟩
    obtain⟨G',a1,_,_,a4⟩:=h.put (grownBy_putObj' w L.block (.loop rc')) rr 0 gg (.lp rc') L (λb e=>by cases e;exact held) (λ_=>.inr held) (.inr hL)
      (λG' _=>⟨ho.1,World.putObj_heap_same (Array.getElem?_eq_some_iff.1 ho.2).1⟩)
    rw[St.set_set'] at a4
    exact⟨G',a1,a4⟩
  let I:Nat->St->Prop:=λi S=>∃y,Inv i y/\S=(stL S0 rg (Z y)).set rr 0 (.lp rec) gg
  have hR:qi P rr gg rec (es0.map (·.1)) (es0.map λp=>aw es0 p.1) xs I:=by
    intro i hi S G3 w3 v vs hIi hr3 hv hvs
    obtain⟨y,hy,rfl⟩:=hIi
    cases hv with
    | yl _ _ _ _ _ _ L hL henv=>
    have ho:=hrecO hr3 hL
    have hsz:vs.size=rec.params.size:=by
      rw[hvs.1,hrec]
      exact hlen _ (List.getElem_mem hi)
    refine⟨L.block,rfl,ho.2,hsz,roundIn_of_wpIn trivial ?_⟩
    have henv':∀j,VR G3 (aw es0 j) (rec.tmps.getD j undef):=vK (λp hp=>by
      obtain⟨k,hk,rfl⟩:=List.mem_iff_getElem.1 hp
      have:=henv k (by simpa using hk) (by simpa using hk)
      simpa using this)
    have hpar:=nk (n:=n) (G:=G3) ps.toList vs.toList xs[i] (aw es0) rec.tmps (by rw[hrec];exact htm)
      (λp hp=>by
        have:=Array.all_eq_true_iff_forall_mem.1 hps p (by simpa using hp)
        simpa using this)
      (by simpa using hvs.1) (λj h h'=>by simpa using hvs.2 j h (by simpa using h')) henv'
    have hfold:(rec.params.zip vs).foldl (λtmps (t,a)=>tmps.setIfInBounds t a) rec.tmps=(ps.toList.zip vs.toList).foldl (λt (p:Nat×Value)=>t.setIfInBounds p.1 p.2) rec.tmps:=by
      rw[<-Array.foldl_toList,Array.toList_zip,hrec]
    rw[hfold]
    have has:rec.assign=assign:=by rw[hrec]
    have hbd:rec.body=body:=by rw[hrec]
    rw[has,hbd]
    rw[hY hne] at hr3
    refine wpIn_mono (hround i hi y hy _ (some L.block) hoka G3 ⟨_,[]⟩ w3 hr3 ⟨jB.nil _,hpar.1,hpar.2⟩) (λe a3 w4 he=>?_)
    cases e with
    | normal=>
      obtain⟨t1,S2,G4,⟨Lo,rfl,hb⟩,le4,hr4,ht4⟩:=he
      rw[<-hY hne] at hr4
      have hL4:=le4.loc _ _ _ _ hL
      have ho4:=hrecO hr4 hL4
      obtain⟨G5,le5,hr5⟩:=hturn { rec with state:=.busy } hr4 hL4
      refine⟨_,run_beginRound ho4.2 (by rw[hrec]),?_⟩
      rw[hY hne] at hr5
      refine wpIn_mono (hb _ (some L.block) hokb G5 a3 _ hr5 (ht4.mono le5)) (λe a5 w5 he=>?_)
      cases e with
      | normal=>
        obtain⟨t5,S5,G6,⟨z,hw,hz⟩,le6,hr6,ht6⟩:=he
        obtain⟨G7,le7,hr7,_⟩:=hw n G6 a5 w5 hr6 ht6
        rw[<-hY hne] at hr7
        have hL7:=le7.loc _ _ _ _ (le6.loc _ _ _ _ (le5.loc _ _ _ _ hL4))
        have ho7:=hrecO hr7 hL7
        have hend:({ { rec with state:=.busy } with state:=if (none:Option Code).isNone then .ready else .done,pending:=none }:Loop)=rec:=by rw[hrec];rfl
        obtain⟨G8,le8,hr8⟩:=hturn rec hr7 hL7
        have hrun:=run_endRound (P:=P) none ho7.2
        rw[hend] at hrun
        exact⟨_,_,hrun,_,G8,rfl,⟨z,hz,rfl⟩,(((le4.trans le5).trans le6).trans le7).trans le8,hr8⟩
      | exit id=>obtain⟨_,_,_,h,_⟩:=he;exact h.elim
      | ret=>obtain⟨_,_,_,h,_⟩:=he;exact h.elim
      | goto l=>exact he.elim
      | panic c=>exact he.elim
      | outgrown=>exact he.elim
    | exit id=>obtain⟨_,_,_,h,_⟩:=he;exact h.elim
    | ret=>obtain⟨_,_,_,h,_⟩:=he;exact h.elim
    | goto l=>exact he.elim
    | panic c=>exact he.elim
    | outgrown=>exact he.elim
  have hctr:=hit rr gg rec (es0.map (·.1)) (es0.map λp=>aw es0 p.1) I ((stL S0 rg (Z y0)).set rr 0 (.lp rec) gg) hR ⟨y0,h0,rfl⟩
  rw[<-hY hne] at hr2
  have hyl:VR G2 (.yl rr 0 gg rec (es0.map (·.1)) (es0.map λp=>aw es0 p.1)) (.func (.yield w1.heap.size) #[] #[]):=by
    refine .yl rr 0 gg rec _ _ _ loc2 (λi h h'=>?_)
    have:=(ht.mono (le1.trans le2)).2.2 (es0.map (·.1))[i]
    rw[hrec]
    simpa using this
  have hcalls:=hctr.2 G2 (w1.alloc (.loop rec)) (#[.func (.yield w1.heap.size) #[] #[]]++cs) hr2 ⟨by simp;omega,λi h h'=>?_⟩
  · refine⟨w.heap.size+1,[{ target:=.collected w.heap.size,args:=#[] }],w1.alloc (.loop rec),{ target:=.fn (.func gf) cs,args:=#[.func (.yield (w.heap.size+1)) #[] #[]] },w1.alloc (.loop rec),gf,
      #[.func (.yield (w.heap.size+1)) #[] #[]]++cs,w1.alloc (.loop rec),?_,?_,?_,?_,(λhc=>by cases hc),?_⟩
    · rw[<-hw1,hrec];exact run_enterLoop_outer _ _ _ _ _
    · simp only[resolve,hcv]
      simp[go_sem]
    · intro f' _;trivial
    · unfold gF at hcal
      cases hfn:P.funcs[gf]? with
      | none=>simp[hfn] at hcal
      | some fn=>
      simp only[hfn,Bool.and_eq_true,Bool.not_eq_true'] at hcal
      have hb:fn.body≠none:=by intro e;simp[e] at hcal
      have hnm : fn.name ≠ "runtime.NumGoroutine" := by simpa using hcal.1
      simp[invoke,callFunc,hfn,hnm,hb]
    · rw[hl2] at hcalls
      have hc2:CallsIn (fen none) (0-1) P gf (#[.func (.yield (w.heap.size+1)) #[] #[]]++cs) (w1.alloc (.loop rec)) _:=callsIn_wide.2 hcalls
      refine CallsIn.mono hc2 (λe w3 he=>?_)
      obtain⟨v,av,S',G',rfl,⟨y,hy,rfl⟩,hle,hr',_⟩:=he
      have hL:=hle.loc _ _ _ _ loc2
      have ho:=hrecO hr' hL
      have hblk:w1.heap.size=w.heap.size+1:=hl2
      have hrun:=run_endLoop (P:=P) ho.2 (by rw[hrec];simp)
      have hpend:rec.pending=none:=by rw[hrec]
      rw[hpend] at hrun
      obtain⟨G'',hle',hr''⟩:=hturn { rec with state:=.exhausted } hr' hL
      have hex:({ rec with state:=.exhausted }:Loop) = { state:=.exhausted,pending:=none,fn:=rec.fn,tmps:=rec.tmps,params:=rec.params,assign:=rec.assign,body:=rec.body,defers:=rec.defers }:=by rw[hrec]
      simp only[hex,hblk] at hrun hr''
      refine⟨none,_,hrun,?_⟩
      have leA:=(le1.trans le2).trans (hle.trans hle')
      refine⟨aw es0,stL S0 rg (Z y),G'',hdone y hy,leA,hr''.sub (λr k x hx=>?_),?_,htm,λi=>(ht.2.2 i).mono leA⟩
      · simp only[St.set]
        split
        · rename_i hc
          rw[hc.1,hc.2] at hx
          have h1:=hN rr om 0
          rw[jE hne] at h1 hx
          rw[h1] at hx
          cases hx
        · exact hx
      · have hm:=ht.1
        refine⟨List.nodup_cons.2 ⟨λhc=>?_,hm.1⟩,λd hd=>?_⟩
        · obtain⟨D,h1,_,h3⟩:=hm.2 _ hc
          have:=pZ h1
          subst this
          have:=(Array.getElem?_eq_some_iff.1 (hr.below.2.1 _ h3)).1
          omega
        · rcases List.mem_cons.1 hd with rfl | hd
          · exact⟨w.heap.size,rfl,by rw[leA.init.2.2];exact hr.below.2.2,(le2.trans (hle.trans hle')).init.2.1 _ (.inr rfl)⟩
          · obtain⟨D,h1,h2,h3⟩:=hm.2 _ hd
            exact⟨D,h1,by rw[leA.init.2.2];exact h2,leA.init.2.1 _ h3⟩
  · cases i with
    | zero=>simpa using hyl
    | succ i=>
      have h1:i<caps.length:=by simpa using h
      have h2:i<cs.size:=by simp at h';omega
      have:=q4 i h1 h2
      simp only[List.getElem_cons_succ]
      rw[Array.getElem_append_right (by simp)]
      simpa using this
def lA {α:Type} [Inhabited α] (enc:α->AV) (l:List α):List (List AV):=(List.range l.length).map λi:Nat=>[.int .i64 ((l.length:Int)-1-(i:Int)),enc (at' l ((l.length:Int)-1-(i:Int)))]
theorem jo {α:Type} [Inhabited α] {enc:α->AV} {l:List α}:(lA enc l).length=l.length:=by simp[lA]
theorem k_ {α:Type} [Inhabited α] {enc:α->AV} {l:List α} {i:Nat} (h:i<(lA enc l).length):(lA enc l)[i]=[.int .i64 ((l.length:Int)-1-(i:Int)),enc (at' l ((l.length:Int)-1-(i:Int)))]:=by simp[lA]
def wv {α σ:Type} [Inhabited α] (l:List α) (init:σ) (body:Int->α->σ->(σ->Prop)->Prop) (k:σ->Prop):Prop:=
  rng (l.length:Int)/\∃I:Nat->σ->Prop,I 0 init/\(∀i:Nat,i<l.length->∀(j:Int) (x:α),j=(l.length:Int)-1-(i:Int)->x=at' l j->∀y,I i y->body j x y (λz=>I (i+1) z))/\∀y,I l.length y->k y
theorem Vc.rangeBack {α:Type} [Inhabited α] {enc:α->AV} {l:List α} {P:Program} {n:Nat} {g:Operand} {p0 p1:Nat} {assign body:Code} {nrm ret:Env->St->Prop} {ex:Nat->Env->St->Prop} {t0:Env} {es0:List (Nat×AV)} {S0:St} {rg:Nat} {l0:cp} {gf:FuncId} {caps:List AV} {σ:Type}
    (Inv:Nat->σ->Prop) (Z:σ->cp) (y0:σ) (hx:EWk t0 (stL S0 rg l0) (aw es0) (stL S0 rg (Z y0))) (hg:ev (aw es0) g = .fn (.func gf) [] caps) (hit:mY P gf caps (lA enc l)) (hcal:gF P gf=true) (h0:Inv 0 y0)
    (hround:∀i,i<l.length->∀(j:Int) (x:α),j=(l.length:Int)-1-(i:Int)->x=at' l j->∀y,Inv i y->∀S1,Vc P n assign ⟨λt1 S2=>∃L,S2=stL S1 rg L/\∀S3,Vc P n body ⟨λt4 S4=>∃z,EWk t4 S4 (aw []) (stL S3 rg (Z z))/\Inv (i+1) z,λ_ _ _=>False,λ_ _=>False⟩ t1 (stL S3 rg L),λ_ _ _=>False,λ_ _=>False⟩ (upd (upd (aw es0) p0 (.int .i64 j)) p1 (enc x)) (stL S1 rg (Z y)))
    (hdone:∀y,Inv l.length y->nrm (aw es0) (stL S0 rg (Z y))):Vc P n (.rangeFunc g #[p0,p1] assign body) ⟨nrm,ex,ret⟩ t0 (stL S0 rg l0):=by
  refine Vc.rangeFn (xs:=lA enc l) Inv Z y0 hx hg hit hcal (λx hx=>?_) h0 (λi hi y hy S1=>?_) (λy hy=>hdone y (by rw[jo] at hy;exact hy))
  · obtain⟨i,hi,rfl⟩:=List.mem_iff_getElem.1 hx
    rw[k_]
    rfl
  · rw[k_]
    exact hround i (by rw[jo] at hi;exact hi) _ _ rfl rfl y hy S1
theorem tI {t:Env} {S:St} {es:List (Nat×AV)} (hf:Fit t es):EWk t S (aw es) S:=λ_ G _ _ hr ht=>⟨G,Ghost.le.refl G,hr,ht.1,ht.2.1,λi=>hf.vw i G _ (ht.2.2 i)⟩
theorem sE0 {T:TypeId} {e:Option Int}:Nat.beq (a_ T e).cells.length 1=true:=by cases e<;>rfl
theorem sE1 {T:TypeId} {e:Option Int} {off kk:Nat} (h:Nat.ble (off+1) kk=true):(Nat.ble (off+1) kk && dx (a_ T e).cells)=true:=by
  rw[h]
  cases e<;>rfl
theorem sE2 {T:TypeId} {e:Option Int}:(a_ T e).cells.getD 0 .junk=a_ T e:=by cases e<;>rfl
theorem sv {k:IntKind} {m q:Int} (h:m=q):VW (.int k m) (.int k q):=h▸VW.refl _
theorem rM {R:AV->St->Prop} {S:St} {rg k g:Nat} {l:cp} {f:Fn} {v:AV} (hrg:∀k,S rg k=none) (hv:v.cells.length=1) (hS:lkp l k=some (.arr 1 [v],g)) (h:R (.fn f [] [.iptr (AV.cells v)]) S):cT R (.fn f [] [.ptr rg k g 0 0]) (stL S rg l):=by
  intro G w x hr hx
  obtain⟨G',hle,hr',L,a1,a2,a3,a4,a5,u,a6,a7⟩:=hr.freeze (r:=rg) (k:=k) (by rw[eF];exact hS)
  refine⟨_,S,G',h,hle,hr'.sub (λr j o e=>?_),?_⟩
  · simp only[St.del]
    split
    · rename_i hc
      rw[hc.1,hrg] at e
      cases e
    · rename_i hc
      by_cases hrr:r=rg
      · rw[hrr,hrg] at e;cases e
      · rw[jE hrr];exact e
  · cases hx with
    | fn _ _ _ fs cs q1 q2 q3 q4=>
    refine .fn f [] _ fs cs q1 (by simpa using q2) (λi h=>by simp at h) (λi h1 h2=>?_)
    have hi:i=0:=by simpa using h1
    subst hi
    have hp:=q4 0 (by simp) h2
    simp only[List.getElem_cons_zero] at hp ⊢
    generalize cs[0]=c at hp
    cases hp with
    | ptr _ _ _ _ _ L' hL'=>
    rw[a1] at hL'
    cases hL'
    refine .iptr _ _ _ (λj=>u 0 j) (λj hj=>?_) (λj hj=>?_)
    · have:=a6 0 j (by simp) om
      simpa using this
    · exact a7 0 (by simp) j (by simpa using hj)
end Go.Gg
