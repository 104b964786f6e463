/- An own logic over the kit's weakest preconditions, part K: one operation of any kind, lists of operations, code; soundness. Conditions: none. -/
import Derived.Test.YtnjgdkfhgmebjaaGa
import Derived.KernelRfl
namespace Go.Gg
open Go.RowKit (Below)
def kQ (P:Program) (f:FuncId):Bool:=match P.funcs[f]? with
  | some fn => !(fn.name == "runtime.NumGoroutine") && fn.body.isSome
  | none=>false
def Ctr (P:Program) (f:FuncId) (as:List AV) (S:St) (R:AV->St->Prop):Prop:=kQ P f=true/\pj P f as S R
theorem Ctr.mono {P:Program} {f:FuncId} {as:List AV} {S:St} {R R':AV->St->Prop} (h:Ctr P f as S R) (hr:∀v S,R v S->R' v S):Ctr P f as S R':=⟨h.1,h.2.mono hr⟩
def uJ:Op->Bool
  | .alloc _ | .box .. | .store .. | .makeSlice .. | .buildSlice .. | .makeMap .. | .mapUpdate .. | .insert ..=>true
  | .call { callee:=.builtin .append,.. }=>true
  | .call { callee:=.value _,.. }=>true
  | _=>false
def vl (P:Program) (rg:Nat) (k:Nat) (o:Op) (e:Operand->AV) (S:St) (K:AV->St->Prop):Prop:=
  match o with
  | .alloc T=>cI P T=true/\∀g,K (.ptr rg k g 0 0) (S.set rg k (.arr (zav P T).cells.length [zav P T]) g)
  | .box _ x=>((e x).solid=true/\0<(e x).cells.length)/\∀g,K (.ptr rg k g 0 0) (S.set rg k (.arr (e x).cells.length [e x]) g)
  | .store T a x=>e9 P T (e a) (e x) S K
  | .makeSlice T l c=>lQ P rg k T (e l) (e c) S K
  | .buildSlice T len parts=>cH P rg k T len (parts.toList.map (·.1)) (parts.toList.map λp=>e p.2) S K
  | .makeMap T r=>gq P rg k T (r.map e) S K
  | .mapUpdate T m i x=>cV P T (e m) (e i) (e x) S K
  | .insert T m i x=>cV P T (e m) (e i) (e x) S K
  | .call { callee:=.builtin .append,args:=xs,argTypes:=ts }=>match xs.toList,ts.toList with
    | [b,x],[T,T']=>T=T'/\cQ P rg k T (e b) (e x) S K
    | _,_=>False
  | .call { callee:=.value f,args:=xs,argTypes:=_ }=>match e f with
    | .fn (.func g) fs caps=>Ctr P g (fs++(xs.toList.map e++caps)) S K
    | _=>False
  | _=>False
theorem sA {P:Program} {n rg k:Nat} {o:Oper} {t:Env} {S:St} {K:AV->St->Prop} (h:vl P rg k o.op (ev t) S K):SOp P n o t S K:=by
  cases ho:o.op with
  | alloc T=>rw[ho] at h;exact rL ho rg k h.1 h.2
  | box T x=>rw[ho] at h;exact uj ho rg k h.1.1 h.1.2 h.2
  | store T a x=>rw[ho] at h;exact rJ ho h
  | makeSlice T l c=>rw[ho] at h;exact sX ho rg k h
  | buildSlice T len parts=>rw[ho] at h;exact i9 ho rg k h
  | makeMap T r=>rw[ho] at h;exact py ho rg k h
  | mapUpdate T m i x=>rw[ho] at h;exact mT (.inl ho) h
  | insert T m i x=>rw[ho] at h;exact mT (.inr ho) h
  | call c=>
    rw[ho] at h
    obtain⟨callee,xs,ts⟩:=c
    cases callee with
    | invoke r m=>exact h.elim
    | builtin b=>
      cases b<;>first | exact h.elim | skip
      simp only[vl] at h
      split at h
      · rename_i b x T T' hx ht
        obtain rfl:xs = #[b,x]:=by cases xs;simp_all
        obtain rfl:ts = #[T,T']:=by cases ts;simp_all
        obtain⟨rfl,h⟩:=h
        exact qp ho rg k h
      · exact h.elim
    | value f=>
      simp only[vl] at h
      split at h
      · rename_i g first caps hf
        obtain⟨hc,h⟩:=h
        intro ro G a w Kc Q hr ht hk
        have hfv:=ht.eval f
        rw[hf] at hfv
        generalize hcv:a.eval f=cv at hfv
        cases hfv with
        | fn _ _ _ fs cs q1 q2 q3 q4=>
        unfold kQ at hc
        cases hfn:P.funcs[g]? with
        | none=>simp[hfn] at hc
        | some fn=>
        simp only[hfn,Bool.and_eq_true,Bool.not_eq_true'] at hc
        have hrun:(execOp a.eval o).run P w = .ok (.enter g (fs++xs.map a.eval++cs)) w:=by
          have hb:fn.body≠none:=by intro e;simp[e] at hc
          have hnm : fn.name ≠ "runtime.NumGoroutine" := by simpa using hc.1
          simp[execOp,ho,resolve,hcv,Deferred.ofValue,invoke,callFunc,hfn,hnm,hb]
        refine sx hrun (h G w _ hr ⟨by simp only[List.length_append,List.length_map,Array.length_toList,Array.size_append,Array.size_map];omega,λi h1 h2=>?_⟩) ?_
        · simp only[List.length_append,List.length_map,Array.length_toList,Array.size_append,Array.size_map] at h1 h2
          by_cases hf0:i<first.length
          · have e1:(first++(xs.toList.map (ev t)++caps))[i]'(by simp;omega)=first[i]:=List.getElem_append_left hf0
            have e2:(fs++xs.map a.eval++cs)[i]'(by simp;omega)=fs[i]'om:=by
              rw[Array.getElem_append_left (by simp;omega),Array.getElem_append_left om]
            rw[e1,e2]
            exact q3 _ _ _
          · by_cases hi:i-first.length<xs.size
            · have e1:(first++(xs.toList.map (ev t)++caps))[i]'(by simp;omega)=ev t xs[i-first.length]:=by
                rw[List.getElem_append_right om,List.getElem_append_left (by simpa using hi)];simp
              have e2:(fs++xs.map a.eval++cs)[i]'(by simp;omega)=a.eval xs[i-first.length]:=by
                rw[Array.getElem_append_left (by simp;omega),Array.getElem_append_right om];simp[q1]
              rw[e1,e2]
              exact ht.eval _
            · have e1:(first++(xs.toList.map (ev t)++caps))[i]'(by simp;omega)=caps[i-first.length-xs.size]'om:=by
                rw[List.getElem_append_right om,List.getElem_append_right (by simp;omega)];simp
              have e2:(fs++xs.map a.eval++cs)[i]'(by simp;omega)=cs[i-first.length-xs.size]'om:=by
                rw[Array.getElem_append_right (by simp;omega)]
                congr 1
                simp only[Array.size_append,Array.size_map];omega
              rw[e1,e2]
              exact q4 _ _ _
        · rintro e w' ⟨v,av,S',G',rfl,b1,b2,b3,b4⟩
          exact⟨v,rfl,hk v av S' G' w' b1 b2 b3 b4⟩
      · exact h.elim
  | _=>rw[ho] at h;exact h.elim
def vop (P:Program) (rg:Nat) (o:Oper) (t:Env) (S:St) (K:AV->St->Prop):Prop:=
  bif uJ o.op then vl P rg (o.dst.getD 0) o.op (ev t) S K else vq P o.op (ev t) S (λv=>K v S)
theorem gh {P:Program} {n rg:Nat} {o:Oper} {t:Env} {S:St} {K:AV->St->Prop} (h:vop P rg o t S K):SOp P n o t S K:=by
  unfold vop at h
  cases hl:uJ o.op with
  | true=>
    rw[hl] at h
    have h':vl P rg (o.dst.getD 0) o.op (ev t) S K:=h
    exact sA h'
  | false=>
    rw[hl] at h
    have h':vq P o.op (ev t) S (λv=>K v S):=h
    exact(sy h').sop
def mO (P:Program) (rg:Nat) (ops:List Oper):List Oper->Env->St->(Env->St->Prop)->Prop
  | [],t,S,K=>K t S
  | o :: rest,t,S,K=>match o.guard with
    | none=>vop P rg o t S (λv S'=>mO P rg ops rest (bX t o.dst v) S' K)
    | some (j,want)=>match (ops[j]?).bind (·.dst) with
      | some d=>match t d with
        | .bool b=>(b=want->vop P rg o (upd t d (.bool want)) S (λv S'=>mO P rg ops rest (bX (upd t d (.bool want)) o.dst v) S' K))/\
            (b = !want->mO P rg ops rest (bX (upd t d (.bool !want)) o.dst .junk) S K)
        | _=>False
      | none=>False
structure AK where
  nrm:Env->St->Prop
  ex:Nat->Env->St->Prop
  ret:Env->St->Prop
def lift (n:Nat) (G:Ghost) (K:Env->St->Prop) (a:Act) (w:World):Prop:=∃t S G',K t S/\G.le G'/\Rel G' S w/\TR n G' t a
def AK.lift (n:Nat) (G:Ghost) (Q:AK):Exit->Act->World->Prop
  | .normal=>Gg.lift n G Q.nrm
  | .exit id=>Gg.lift n G (Q.ex id)
  | .ret=>Gg.lift n G Q.ret
  | _=>λ_ _=>False
theorem lift_mono {n:Nat} {G G':Ghost} {K:Env->St->Prop} {a:Act} {w:World} (h:lift n G' K a w) (hg:G.le G'):lift n G K a w:=
  let ⟨t,S,G2,a1,a2,a3,a4⟩:=h;⟨t,S,G2,a1,hg.trans a2,a3,a4⟩
theorem pp {t:Env} {d:Nat} {v:AV} (h:t d=v):upd t d v=t:=by
  funext k
  unfold upd
  split
  · rename_i e;rw[e,h]
  · rfl
theorem sw {n:Nat} {G:Ghost} {t:Env} {a:Act} (h:TR n G t a) {ops:List Oper} {j d:Nat} {b:Bool} (hd:(ops[j]?).bind (·.dst)=some d) (hb:t d = .bool b) :
    yielded ops.toArray a.tmps j=some b:=by
  have h1:=h.2.2 d
  rw[hb] at h1
  generalize hv:a.tmps.getD d undef=v at h1
  cases h1
  unfold yielded
  simp only[List.getElem?_toArray,hd]
  rw[Array.getD_eq_getD_getElem?] at hv
  cases hg:a.tmps[d]? with
  | none=>rw[hg] at hv;simp[undef] at hv
  | some x=>rw[hg] at hv;simp at hv;subst hv;simp only[Option.bind_some,hg]
theorem VR.undef (G:Ghost):VR G (.tuple []) undef:=.tuple [] #[] rfl (λi h=>by simp at h)
theorem t9 {n:Nat} {G:Ghost} {t:Env} {a:Act} (h:TR n G t a) {ops:List Oper} {j d:Nat} (hd:(ops[j]?).bind (·.dst)=some d) (hb:t d = .tuple []):yielded ops.toArray a.tmps j=none:=by
  have h1:=h.2.2 d
  rw[hb] at h1
  generalize hv:a.tmps.getD d undef=v at h1
  cases h1 with
  | tuple _ xs q1 _=>
    unfold yielded
    simp only[List.getElem?_toArray,hd]
    rw[Array.getD_eq_getD_getElem?] at hv
    cases hg:a.tmps[d]? with
    | none=>simp[hg]
    | some x=>rw[hg] at hv;simp at hv;subst hv;simp[hg]
def EWk (t:Env) (S:St) (t':Env) (S':St):Prop:=∀(n:Nat) (G:Ghost) (a:Act) (w:World),Rel G S w->TR n G t a->∃G',G.le G'/\Rel G' S' w/\TR n G' t' a
theorem EWk.trans {t t' t'':Env} {S S' S'':St} (h:EWk t S t' S') (h':EWk t' S' t'' S''):EWk t S t'' S'':=λn G a w hr ht=>
  let ⟨G1,a1,a2,a3⟩:=h n G a w hr ht
  let ⟨G2,b1,b2,b3⟩:=h' n G1 a w a2 a3
  ⟨G2,a1.trans b1,b2,b3⟩
def Later (K:Env->St->Prop) (t:Env) (S:St):Prop:=∀(n:Nat) (G:Ghost) (a:Act) (w:World),Rel G S w->TR n G t a->lift n G K a w
def vdr (P:Program) (n:Nat) (ops:Array Oper) (K:Env->St->Prop) (t:Env) (S:St):Prop:=
  ∀(ro:Option Nat) (G:Ghost) (a:Act) (w:World) (Q:Exit->Act->World->Prop),Rel G S w->TR n G t a->(∀a w,lift n G K a w->Q .normal a w)->
    wpAnyIn (fen ro) 0 P .any ops Q ops.size (Array.replicate ops.size false) a w
def vc (P:Program) (n rg:Nat):Code->AK->Env->St->Prop
  | .skip,Q,t,S=>Q.nrm t S
  | .region _ ops draw,Q,t,S=>bif draw then vdr P n ops Q.nrm t S else mO P rg ops.toList ops.toList t S Q.nrm
  | .seq a b,Q,t,S=>∃R:Env->St->Prop,vc P n rg a { Q with nrm:=R } t S/\∀t S,R t S->Later (vc P n rg b Q) t S
  | .cond c a b,Q,t,S=>match ev t c with
    | .bool v=>(v=true->vc P n rg a Q t S)/\(v=false->vc P n rg b Q t S)
    | _=>False
  | .block id c,Q,t,S=>vc P n rg c { Q with ex:=λi t S=>if i=id then Q.nrm t S else Q.ex i t S } t S
  | .loop c,Q,t,S=>∃(I:Env->St->Prop) (μ:Env->St->Nat),I t S/\∀t S,I t S->vc P n rg c { Q with nrm:=λt' S'=>I t' S'/\μ t' S'<μ t S } t S
  | .exit id,Q,t,S=>Q.ex id t S
  | .ret,Q,t,S=>Q.ret t S
  | _,_,_,_=>False
theorem qh {P:Program} {F:Fence} {n:Nat} {c:Code} {Q:Exit->Act->World->Prop} {α:Type} (I:α->Act->World->Prop) (μ:α->Nat) {a:Act} {w:World} {x:α} (h₀:I x a w)
    (round:∀x a w,I x a w->c.wpIn F n P (Exit.then (λa' w'=>∃x',I x' a' w'/\μ x'<μ x) Q) a w):(Code.loop c).wpIn F n P Q a w:=by
  intro b k cs hro hb hr
  have key:∀j x a w,μ x=j->I x a w->
      ∃e a' w',Q e a' w'/\ArrivesIn (Machine.fenced P F) P (lone (b.atR a (.code c :: .inLoop c :: k)) cs w) b k cs e a' w':=by
    intro j
    induction j using Nat.strongRecOn with
    | _ j ih=>
      intro x a w hn hI
      obtain⟨e,a₁,w₁,hq,harr⟩:=round x a w hI b (.inLoop c :: k) cs hro hb hr
      cases e with
      | normal=>
        obtain⟨x',hI₁,hlt⟩:=hq
        obtain⟨e₂,a₂,w₂,hq₂,harr₂⟩:=ih (μ x') (hn▸hlt) x' a₁ w₁ rfl hI₁
        exact⟨e₂,a₂,w₂,hq₂,.of_steps (StepsIn.trans harr (.one (fenced_calm hb hr rfl) stepR_inLoop)) harr₂⟩
      | exit id=>exact⟨_,a₁,w₁,hq,.pass (x:=.inLoop c) rfl (λ_ _=>.inl (by simp)) harr⟩
      | goto l=>exact⟨_,a₁,w₁,hq,.pass (x:=.inLoop c) rfl (λ_ _=>.inl (by simp)) harr⟩
      | ret=>exact⟨_,a₁,w₁,hq,.pass (x:=.inLoop c) rfl (λ_ _=>.inl (by simp)) harr⟩
      | panic ch=>exact⟨_,a₁,w₁,hq,.pass (x:=.inLoop c) rfl (λ_ _=>.inl (by simp)) harr⟩
      | outgrown=>exact⟨_,a₁,w₁,hq,.pass (x:=.inLoop c) rfl (λ_ _=>.inl (by simp)) harr⟩
  obtain⟨e,a',w',hq,harr⟩:=key _ x a w rfl h₀
  exact⟨e,a',w',hq,.of_steps (.one (fenced_calm hb hr rfl) stepR_loop) harr⟩
def fp (b:Bool) (n:Nat):Code->Bool
  | .region _ ops _=>ops.all λo=>match o.dst with | some d=>decide (d<n) | none=>true
  | .seq x y=>fp b n x && fp b n y
  | .cond _ x y=>fp b n x && fp b n y
  | .block _ c=>fp b n c
  | .loop c=>fp b n c
  | .rangeFunc _ ps x c=>!b && (ps.all λp=>decide (p<n)) && fp true n x && fp true n c
  | _=>true
def kn (P:Program):List ResultVar->Env->St->(List AV->Prop)->Prop
  | [],_,_,K=>K []
  | .tmp k :: rest,t,S,K=>kn P rest t S (λvs=>K (t k :: vs))
  | .cell a T :: rest,t,S,K=>eH P T (t a) S (λv=>kn P rest t S (λvs=>K (v :: vs)))
def ua:List AV->AV | [v]=>v | vs=>.tuple vs
def Wk (v:AV) (S:St) (v':AV) (S':St):Prop:=∀(G:Ghost) (w:World) (x:Value),Rel G S w->VR G v x->∃G',G.le G'/\Rel G' S' w/\VR G' v' x
theorem Wk.sub {v:AV} {S S':St} (h:S'.sub S):Wk v S v S':=λG _ _ hr hv=>⟨G,Ghost.le.refl G,hr.sub h,hv⟩
def cX (R:AV->St->Prop) (v:AV) (S:St):Prop:=∀(G:Ghost) (w:World) (x:Value),Rel G S w->VR G v x->∃v' S' G',R v' S'/\G.le G'/\Rel G' S' w/\VR G' v' x
theorem cX.now {R:AV->St->Prop} {v:AV} {S:St} (h:R v S):cX R v S:=λG _ _ hr hv=>⟨v,S,G,h,Ghost.le.refl G,hr,hv⟩
theorem cX.wk {R:AV->St->Prop} {v v':AV} {S S':St} (hw:Wk v S v' S') (h:cX R v' S'):cX R v S:=λG w x hr hv=>
  let ⟨G1,a1,a2,a3⟩:=hw G w x hr hv
  let ⟨v2,S2,G2,b0,b1,b2,b3⟩:=h G1 w x a2 a3
  ⟨v2,S2,G2,b0,a1.trans b1,b2,b3⟩
theorem g_ {P:Program} {n:Nat} {G:Ghost} {t:Env} {S:St} {a:Act} {w:World} (hr:Rel G S w) (ht:TR n G t a):∀(l:List ResultVar) (K:List AV->Prop),kn P l t S K->
    ∃(xs:List Value) (vs:List AV),(l.mapM λr=>(match r with | .tmp t=>pure (a.tmps.getD t undef) | .cell ad ty=>do loadVar ty (←asAddr (a.tmps.getD ad undef)):Sem Value)).run P w = .ok xs w/\K vs/\
      xs.length=vs.length/\∀i (h:i<vs.length) (h':i<xs.length),VR G vs[i] xs[i]
  | [],K,h=>⟨[],[],by simp,h,rfl,λi h=>by simp at h⟩
  | .tmp k :: rest,K,h=>by
    obtain⟨xs,vs,h1,h2,h3,h4⟩:=g_ hr ht rest _ h
    refine⟨a.tmps.getD k undef :: xs,t k :: vs,by simp only[List.mapM_cons,Sem.run_bind,Sem.run_pure,Result.andThen_ok,h1],h2,by simp[h3],λi hi hi'=>?_⟩
    cases i with
    | zero=>exact ht.2.2 k
    | succ i=>exact h4 i (by simpa using hi) (by simpa using hi')
  | .cell ad ty :: rest,K,h=>by
    obtain⟨v,av,q1,q2,q3⟩:=tc (P:=P) hr (ht.2.2 ad) h
    obtain⟨xs,vs,h1,h2,h3,h4⟩:=g_ hr ht rest _ q2
    have hl:((do loadVar ty (←asAddr (a.tmps.getD ad undef)):Sem Value)).run P w = .ok v w:=by
      have hp:=ht.2.2 ad
      simp only[kn,eH] at h
      cases hta:t ad<;>rw[hta] at h hp<;>first
        | exact h.elim
        | (generalize a.tmps.getD ad undef=z at hp q1 ⊢
           cases hp
           simpa[Instr.loadAt,Instr.sureAddr,asAddr] using q1)
    refine⟨v :: xs,av :: vs,by simp only[List.mapM_cons,Sem.run_bind,hl,Result.andThen_ok,h1,Sem.run_pure],h2,by simp[h3],λi hi hi'=>?_⟩
    cases i with
    | zero=>exact q3
    | succ i=>exact h4 i (by simpa using hi) (by simpa using hi')
def args (as:List AV):Env:=λi=>as.getD i .junk
def pE (P:Program) (rs:List ResultVar) (R:AV->St->Prop):Env->St->Prop:=λt S=>kn P rs t S (λvs=>cX R (ua vs) S)
theorem so (S:St) (r:Nat):(S.clear r).sub S:=λr' k x h=>by
  simp only[St.clear] at h
  split at h
  · cases h
  · exact h
end Go.Gg
namespace Go.Gg
def vo (P:Program) (rg:Nat) (d:Option Nat) (op:Op) (t:Env) (S:St) (K:AV->St->Prop):Prop:=
  bif uJ op then vl P rg (d.getD 0) op (ev t) S K else vq P op (ev t) S (λv=>K v S)
section
variable {P:Program} {n rg:Nat} {d:Option Nat} {t:Env} {S:St} {K:AV->St->Prop} {ty:TypeId} {pos:String} {after:Array Edge} {Q:AK} {KE:Env->St->Prop}
@[go_sem ↓] theorem vc_skip:vc P n rg .skip Q t S=Q.nrm t S:=rfl
@[go_sem ↓] theorem vc_region {id:Nat} {l:List Oper}:vc P n rg (.region id l.toArray false) Q t S=mO P rg l l t S Q.nrm:=rfl
@[go_sem ↓] theorem vc_drawn {id:Nat} {ops:Array Oper}:vc P n rg (.region id ops true) Q t S=vdr P n ops Q.nrm t S:=rfl
@[go_sem ↓] theorem vc_cond {c:Operand} {a b:Code}:vc P n rg (.cond c a b) Q t S=(match ev t c with
    | .bool v=>(v=true->vc P n rg a Q t S)/\(v=false->vc P n rg b Q t S)
    | _=>False):=rfl
@[go_sem ↓] theorem vc_block {id:Nat} {c:Code}:vc P n rg (.block id c) Q t S=vc P n rg c { Q with ex:=λi t S=>if i=id then Q.nrm t S else Q.ex i t S } t S:=rfl
@[go_sem ↓] theorem vc_exit {id:Nat}:vc P n rg (.exit id) Q t S=Q.ex id t S:=rfl
@[go_sem ↓] theorem vc_ret:vc P n rg .ret Q t S=Q.ret t S:=rfl
@[congr] theorem gives_congr {R:AV->St->Prop} {v v':AV} {S S':St} (hv:v=v') (hS:S=S'):cX R v S=cX R v' S':=by rw[hv,hS]
@[congr] theorem later_congr {K:Env->St->Prop} {t:Env} {S:St}:Later K t S=Later K t S:=rfl
def vF (I:Env->St->Prop) (μ:Env->St->Nat) (m:Nat) (t:Env) (S:St):Prop:=I t S/\μ t S<m
@[congr] theorem again_congr {I:Env->St->Prop} {μ:Env->St->Nat} {m:Nat} {t:Env} {S:St}:vF I μ m t S=vF I μ m t S:=rfl
@[go_sem ↓] theorem vops_nil {ops:List Oper}:mO P rg ops [] t S KE=KE t S:=rfl
@[go_sem ↓] theorem vops_none {ops rest:List Oper} {op:Op}:mO P rg ops (⟨d,op,ty,pos,after,none⟩ :: rest) t S KE=vo P rg d op t S (λv S'=>mO P rg ops rest (bX t d v) S' KE):=rfl
@[go_sem ↓] theorem vops_some {ops rest:List Oper} {op:Op} {j:Nat} {want:Bool}:mO P rg ops (⟨d,op,ty,pos,after,some (j,want)⟩ :: rest) t S KE=(match (ops[j]?).bind (·.dst) with
      | some g=>match t g with
         | .bool b=>(b=want->vo P rg d op (upd t g (.bool want)) S (λv S'=>mO P rg ops rest (bX (upd t g (.bool want)) d v) S' KE))/\
            (b = !want->mO P rg ops rest (bX (upd t g (.bool !want)) d .junk) S KE)
         | _=>False
      | none=>False):=rfl
@[go_sem] theorem updo_some {k:Nat} {v:AV}:bX t (some k) v=upd t k v:=rfl
@[go_sem] theorem updo_none {v:AV}:bX t none v=t:=rfl
@[go_sem] theorem upd_at {k k':Nat} {v:AV}:upd t k v k'=if k'=k then v else t k':=rfl
@[go_sem] theorem ev_tmp {k:Nat}:ev t (.tmp k)=t k:=rfl
@[go_sem] theorem ev_const {v:Value}:ev t (.const v)=ofConst v:=rfl
@[go_sem] theorem ev_func {f:FuncId}:ev t (.func f) = .fn (.func f) [] []:=rfl
@[go_sem] theorem ofConst_int {k:IntKind} {m:Int}:ofConst (.int k m) = .int k m:=rfl
@[go_sem] theorem ofConst_bool {b:Bool}:ofConst (.bool b) = .bool b:=rfl
@[go_sem] theorem ofConst_string {s:ByteArray}:ofConst (.string s) = .str s:=rfl
@[go_sem] theorem ofConst_nilp:ofConst (.pointer none) = .nilp:=rfl
@[go_sem] theorem ofConst_nil:ofConst (.slice none 0 0) = .nil:=rfl
@[go_sem] theorem ofConst_nilmap:ofConst (.map none) = .nilmap:=rfl
@[go_sem] theorem ofConst_nilf:ofConst .nilFunc = .nilf:=rfl
@[go_sem] theorem ofConst_niface:ofConst .nilIface = .niface:=rfl
@[go_sem] theorem ofConst_iface {T:TypeId} {k:IntKind} {m:Int}:ofConst (.iface T (.int k m)) = .iface T (.int k m):=rfl
@[go_sem ↓] theorem vo_move {x:Operand}:vo P rg d (.move x) t S K=K (ev t x) S:=rfl
@[go_sem ↓] theorem vo_assign {x:Operand}:vo P rg d (.assign x) t S K=K (ev t x) S:=rfl
@[go_sem ↓] theorem vo_pick {c a b:Operand}:vo P rg d (.pick c a b) t S K=(match ev t c with | .bool v=>K (bif v then ev t a else ev t b) S | _=>False):=rfl
@[go_sem ↓] theorem vo_bin {op:BinOp} {T T':TypeId} {x y:Operand}:vo P rg d (.binOp op T x y T') t S K=oH P op T x y (ev t x) (ev t y) (λv=>K v S):=rfl
@[go_sem ↓] theorem vo_un {op:UnOp} {T:TypeId} {x:Operand}:vo P rg d (.unOp op T x) t S K=vUn op (ev t x) (λv=>K v S):=rfl
@[go_sem ↓] theorem vo_conv {s T:TypeId} {x:Operand}:vo P rg d (.convert s T x) t S K=(match ev t x,td P T,td P s with | .int _ m,.int k,.int _=>K (.int k (k.wrap m)) S | _,_,_=>False):=by
  unfold vo vq;rfl
@[go_sem ↓] theorem vo_iface {T:TypeId} {x:Operand}:vo P rg d (.makeInterface T x) t S K=((match td P T with | .iface | .other=>False | _=>True)/\K (.iface T (ev t x)) S):=rfl
@[go_sem ↓] theorem vo_func {fn:Fn} {a b:List Operand}:vo P rg d (.makeFunc fn a.toArray b.toArray) t S K=K (.fn fn (a.map (ev t)) (b.map (ev t))) S:=rfl
@[go_sem ↓] theorem vo_build {T:TypeId} {parts:List (Nat×Operand)}:vo P rg d (.build T parts.toArray) t S K=gU P T (parts.map λp=>(p.1,ev t p.2)) (λv=>K v S):=rfl
@[go_sem ↓] theorem vo_load {T:TypeId} {x:Operand}:vo P rg d (.load T x) t S K=eH P T (ev t x) S (λv=>K v S):=rfl
@[go_sem ↓] theorem vo_nilCheck {x:Operand}:vo P rg d (.nilCheck x) t S K=((match ev t x with | .ptr .. | .iptr _=>True | .fn (.func _) _ _=>True | _=>False)/\K (ev t x) S):=rfl
@[go_sem ↓] theorem vo_fieldAddr {T f:Nat} {x:Operand}:vo P rg d (.fieldAddr T x f) t S K=cJ P T f (ev t x) (λv=>K v S):=rfl
@[go_sem ↓] theorem vo_field {T f:Nat} {x:Operand}:vo P rg d (.field T x f) t S K=iD P T f (ev t x) (λv=>K v S):=rfl
@[go_sem ↓] theorem vo_indexAddr {T:TypeId} {x i:Operand}:vo P rg d (.indexAddr T x i) t S K=dH P T (ev t x) (ev t i) (λv=>K v S):=rfl
@[go_sem ↓] theorem vo_index {T:TypeId} {x i:Operand}:vo P rg d (.index T x i) t S K=gT P T (ev t x) (ev t i) (λv=>K v S):=rfl
@[go_sem ↓] theorem vo_slice {T:TypeId} {x:Operand} {lo hi mx:Option Operand}:vo P rg d (.slice T x lo hi mx) t S K=e_ P T (ev t x) (lo.map (ev t)) (hi.map (ev t)) (mx.map (ev t)) (λv=>K v S):=rfl
@[go_sem ↓] theorem vo_extract {x:Operand} {i:Nat}:vo P rg d (.extract x i) t S K=(match ev t x with | .tuple vs=>i<vs.length/\K (vs.getD i .junk) S | _=>False):=rfl
@[go_sem ↓] theorem vo_assert {x:Operand} {a T:TypeId} {ok:Bool}:vo P rg d (.typeAssert x a T ok) t S K=gN P T ok (ev t x) (λv=>K v S):=rfl
@[go_sem ↓] theorem vo_len {x:Operand} {T:TypeId}:vo P rg d (.call { callee:=.builtin .len,args:=#[x],argTypes:=#[T] }) t S K=eI P T (ev t x) S (λv=>K v S):=rfl
@[go_sem ↓] theorem vo_lookup {T:TypeId} {x i:Operand} {ok:Bool}:vo P rg d (.lookup T x i ok) t S K=dY P T ok (ev t x) (ev t i) S (λv=>K v S):=rfl
@[go_sem ↓] theorem vo_makeMap {T:TypeId} {r:Option Operand}:vo P rg d (.makeMap T r) t S K=gq P rg (d.getD 0) T (r.map (ev t)) S K:=rfl
@[go_sem ↓] theorem vo_mapUpd {T:TypeId} {m i x:Operand}:vo P rg d (.mapUpdate T m i x) t S K=cV P T (ev t m) (ev t i) (ev t x) S K:=rfl
@[go_sem ↓] theorem vo_insert {T:TypeId} {m i x:Operand}:vo P rg d (.insert T m i x) t S K=cV P T (ev t m) (ev t i) (ev t x) S K:=rfl
@[go_sem ↓] theorem vo_max {x y:Operand} {ts:Array TypeId}:vo P rg d (.call { callee:=.builtin .max,args:=#[x,y],argTypes:=ts }) t S K =
    (match ev t x,ev t y with | .int k m,.int _ n=>K (.int k (if m<n then n else m)) S | _,_=>False):=by unfold vo vq;rfl
@[go_sem ↓] theorem vo_min {x y:Operand} {ts:Array TypeId}:vo P rg d (.call { callee:=.builtin .min,args:=#[x,y],argTypes:=ts }) t S K =
    (match ev t x,ev t y with | .int k m,.int _ n=>K (.int k (if n<m then n else m)) S | _,_=>False):=by unfold vo vq;rfl
@[go_sem ↓] theorem vo_alloc {T:TypeId}:vo P rg d (.alloc T) t S K=(cI P T=true/\∀g,K (.ptr rg (d.getD 0) g 0 0) (S.set rg (d.getD 0) (.arr (zav P T).cells.length [zav P T]) g)):=rfl
@[go_sem ↓] theorem vo_box {T:TypeId} {x:Operand}:vo P rg d (.box T x) t S K=(((ev t x).solid=true/\0<(ev t x).cells.length)/\∀g,K (.ptr rg (d.getD 0) g 0 0) (S.set rg (d.getD 0) (.arr (ev t x).cells.length [ev t x]) g)):=rfl
@[go_sem ↓] theorem vo_store {T:TypeId} {a x:Operand}:vo P rg d (.store T a x) t S K=e9 P T (ev t a) (ev t x) S K:=rfl
@[go_sem ↓] theorem vo_make {T:TypeId} {l c:Operand}:vo P rg d (.makeSlice T l c) t S K=lQ P rg (d.getD 0) T (ev t l) (ev t c) S K:=rfl
@[go_sem ↓] theorem vo_buildSlice {T:TypeId} {len:Nat} {parts:List (Nat×Operand)}:vo P rg d (.buildSlice T len parts.toArray) t S K=cH P rg (d.getD 0) T len (parts.map (·.1)) (parts.map λp=>ev t p.2) S K:=rfl
@[go_sem ↓] theorem vo_append {T:TypeId} {b x:Operand}:vo P rg d (.call { callee:=.builtin .append,args:=#[b,x],argTypes:=#[T,T] }) t S K=cQ P rg (d.getD 0) T (ev t b) (ev t x) S K:=by
  have:vo P rg d (.call { callee:=.builtin .append,args:=#[b,x],argTypes:=#[T,T] }) t S K=(T=T/\cQ P rg (d.getD 0) T (ev t b) (ev t x) S K):=rfl
  rw[this];simp
@[go_sem ↓] theorem vo_call {f:Operand} {xs:List Operand} {ts:Array TypeId}:vo P rg d (.call { callee:=.value f,args:=xs.toArray,argTypes:=ts }) t S K =
    (match ev t f with | .fn (.func g) fs caps=>Ctr P g (fs++(xs.map (ev t)++caps)) S K | _=>False):=rfl
@[go_sem] theorem set_at {r k r' k' g:Nat} {o:GObj}:St.set S r k o g r' k'=if r'=r/\k'=k then some (o,g) else S r' k':=rfl
@[go_sem] theorem clear_set {r k g:Nat} {o:GObj}:(St.set S r k o g).clear r=S.clear r:=by
  funext r' k'
  simp only[St.clear,St.set]
  split
  · rfl
  · rename_i h;rw[if_neg (λhc=>h hc.1)]
@[go_sem] theorem set_set {r k g g':Nat} {o o':GObj}:(St.set S r k o g).set r k o' g'=S.set r k o' g':=by
  funext a b
  simp only[St.set]
  split<;>rfl
@[go_sem] theorem del_set {r k g:Nat} {o:GObj}:(St.set S r k o g).del r k=S.del r k:=by
  funext a b
  simp only[St.set,St.del]
  split<;>rfl
@[go_sem] theorem clear_del {r k:Nat}:(S.del r k).clear r=S.clear r:=by
  funext a b
  simp only[St.del,St.clear]
  split
  · rfl
  · rename_i h;rw[if_neg (λhc=>h hc.1)]
theorem qL {r:Nat} (h:∀k,S r k=none):S.clear r=S:=by
  funext a b
  simp only[St.clear]
  split
  · rename_i e;rw[e,h]
  · rfl
@[go_sem] theorem clear_clear {r:Nat}:(S.clear r).clear r=S.clear r:=qL (λk=>by simp[St.clear])
@[go_sem] theorem cells_int {k:IntKind} {m:Int}:(AV.int k m).cells=[.int k m]:=rfl
@[go_sem] theorem cells_bool {b:Bool}:(AV.bool b).cells=[.bool b]:=rfl
@[go_sem] theorem cells_agg {cs:List AV}:(AV.agg cs).cells=cs:=rfl
@[go_sem] theorem cells_list {cs:List AV}:(AV.list cs).cells=[.list cs]:=rfl
@[go_sem] theorem cells_nil:(AV.nil).cells=[.nil]:=rfl
@[go_sem] theorem cells_sl {kk r k g off len:Nat}:(AV.sl kk r k g off len).cells=[.sl kk r k g off len]:=rfl
@[go_sem] theorem cells_map {r k g:Nat}:(AV.map r k g).cells=[.map r k g]:=rfl
@[go_sem] theorem cells_nilmap:(AV.nilmap).cells=[.nilmap]:=rfl
@[go_sem] theorem cells_ptr {r k g i off:Nat}:(AV.ptr r k g i off).cells=[.ptr r k g i off]:=rfl
@[go_sem] theorem cells_nilp:(AV.nilp).cells=[.nilp]:=rfl
@[go_sem] theorem cells_fn {f:Fn} {a b:List AV}:(AV.fn f a b).cells=[.fn f a b]:=rfl
@[go_sem] theorem cells_nilf:(AV.nilf).cells=[.nilf]:=rfl
@[go_sem] theorem cells_niface:(AV.niface).cells=[.niface]:=rfl
@[go_sem] theorem cells_iface {T:TypeId} {v:AV}:(AV.iface T v).cells=[.iface T v]:=rfl
attribute [go_sem ↓] lR.eq_def jY.eq_def oH.eq_def vUn.eq_def eH.eq_def dH.eq_def gT.eq_def e_.eq_def cJ.eq_def iD.eq_def gU.eq_def eI.eq_def kY.eq_def gN.eq_def e9.eq_def lQ.eq_def cH.eq_def cQ.eq_def
attribute [go_sem] bnd iB ldv gf stv dt AV.one AV.solid eU kn ua pE
  List.getD_cons_zero List.getD_cons_succ List.length_cons List.length_nil List.map_cons List.map_nil Option.map_some Option.map_none Option.getD_some Option.getD_none List.drop_succ_cons List.drop_zero List.take_succ_cons List.take_zero
  List.cons_append List.nil_append List.append_nil List.all_cons List.all_nil List.foldl_cons List.foldl_nil cond_true cond_false List.getElem?_cons_zero List.getElem?_cons_succ Option.bind_some Option.bind_none List.set_cons_zero List.set_cons_succ List.range_succ List.range_zero beq_self_eq_true List.length_take List.length_drop List.length_append List.length_replicate List.length_set
  eq_self Bool.not_true Bool.not_false Int.toNat_natCast Nat.zero_add Nat.add_zero true_and and_true if_true if_false Bool.and_true Bool.true_and and_self reduceCtorEq false_implies true_implies implies_true List.drop_nil List.take_nil
end
@[go_sem] theorem args_at {as:List AV} {k:Nat}:args as k=as.getD k .junk:=rfl
@[go_sem] theorem drop_and {p q:Prop} (h:p):(p/\q)=q:=by simp[h]
def intL (k:IntKind) (l:List Int):List AV:=l.map (.int k)
@[go_sem] theorem intL_len (k:IntKind) (l:List Int):(intL k l).length=l.length:=by simp[intL]
@[go_sem] theorem intL_all (k:IntKind) (l:List Int) (f:AV->Bool):(intL k l).all f=l.all (λm=>f (.int k m)):=by simp[intL,Function.comp_def]
@[go_sem] theorem all_tt {α:Type} (l:List α):(l.all λ_=>true)=true:=by simp
@[go_sem] theorem intL_take (k:IntKind) (l:List Int) (n:Nat):(intL k l).take n=intL k (l.take n):=by simp[intL]
@[go_sem] theorem intL_drop (k:IntKind) (l:List Int) (n:Nat):(intL k l).drop n=intL k (l.drop n):=by simp[intL]
@[go_sem] theorem intL_append (k:IntKind) (l m:List Int):intL k l++intL k m=intL k (l++m):=by simp[intL]
@[go_sem] theorem intL_snoc (k:IntKind) (l:List Int) (m:Int):intL k l++[.int k m]=intL k (l++[m]):=by simp[intL]
@[go_sem] theorem intL_cons (k:IntKind) (l:List Int) (m:Int):AV.int k m :: intL k l=intL k (m :: l):=by simp[intL]
@[go_sem] theorem intL_rep (k:IntKind) (n:Nat) (m:Int):List.replicate n (.int k m)=intL k (List.replicate n m):=by simp[intL]
@[go_sem] theorem intL_set (k:IntKind) (l:List Int) (i:Nat) (m:Int):(intL k l).set i (.int k m)=intL k (l.set i m):=by simp[intL]
@[go_sem] theorem intL_get (k:IntKind) (l:List Int) (i:Nat) (h:i<l.length):(intL k l).getD i .junk = .int k (l.getD i 0):=by
  rw[intL,List.getD_eq_getElem?_getD,List.getD_eq_getElem?_getD];simp[h]
@[go_sem] theorem cast_zero:((0:Nat):Int)=0:=rfl
@[go_sem] theorem cast_one:((1:Nat):Int)=1:=rfl
@[go_sem] theorem cast_succ (a:Nat):((a+1:Nat):Int)=(a:Int)+1:=rfl
@[go_sem] theorem toNat_add (a b:Nat):((a:Int)+(b:Int)).toNat=a+b:=om
@[go_sem] theorem toNat_add_one (a:Nat):((a:Int)+1).toNat=a+1:=om
@[go_sem] theorem wrap_u64_id {m:Int} (h0:0<=m) (h1:m<=18446744073709551615):IntKind.u64.wrap m=m:=by simp only[IntKind.wrap,IntKind.bits,IntKind.signed];simp;omega
@[go_sem] theorem wrap_i64_id {m:Int} (h0 : -9223372036854775808<=m) (h1:m<=9223372036854775807):IntKind.i64.wrap m=m:=by rw[IntKind.wrap_i64];omega
theorem i8 {m:Int}:IntKind.u64.wrap m=m % 18446744073709551616:=by simp[IntKind.wrap,IntKind.bits,IntKind.signed]
@[go_sem] theorem wrap_u32 {m:Int}:IntKind.u32.wrap m=m % 4294967296:=by simp[IntKind.wrap,IntKind.bits,IntKind.signed]
@[go_sem] theorem wrap_u8 {m:Int}:IntKind.u8.wrap m=m % 256:=by simp[IntKind.wrap,IntKind.bits,IntKind.signed]
structure Hide (p:Prop):Prop where
  out:p
def ix:AV->Nat | .int _ m=>m.toNat | _=>0
@[go_sem] theorem ix_int {k:IntKind} {m:Int}:ix (.int k m)=m.toNat:=rfl
end Go.Gg
namespace Go.Gg
open Go.RowKit (Below)
theorem rx (S:St) (r k:Nat):(S.del r k).sub S:=λr' k' x h=>by
  simp only[St.del] at h
  split at h
  · cases h
  · exact h
theorem Rel.freeze {G:Ghost} {S:St} {w:World} (h:Rel G S w) {r k g kk:Nat} {es:List AV} (hS:S r k=some (.arr kk es,g)) :
    ∃G',G.le G'/\Rel G' (S.del r k) w/\∃L,G.loc r k g=some L/\L.k=kk/\es.length<=L.cap/\L.cap<=maxLen/\(∀i (h:i<es.length),es[i].cells.length=kk)/\
      ∃u:Nat->Nat->Value,(∀i j,i<es.length->j<kk->G'.imm L.block (i*kk+j)=some (u i j))/\(∀i (h:i<es.length) j (h':j<es[i].cells.length),VR G' es[i].cells[j] (u i j)):=by
  obtain⟨L,hL,hobj,hown⟩:=h.obj _ _ _ _ hS
  have hobj':=hobj
  obtain⟨hk0,hLk,hcap,hm,hcl,hrows⟩:=hobj
  let G':Ghost:={ G with imm:=λb o=>if b=L.block/\0<L.cap then (w.cell? ⟨b,o,none⟩) else G.imm b o }
  have hle:G.le G':=by
    refine⟨⟨rfl,λ_ h=>h,rfl⟩,λb o u e=>?_,λ_ _ _ _ e=>e⟩
    show(if b=L.block/\0<L.cap then (w.cell? ⟨b,o,none⟩) else G.imm b o)=some u
    split
    · exact h.imm _ _ _ e
    · exact e
  have hcells:∀i (hi:i<es.length) j (_:j<kk),∃u,w.cell? ⟨L.block,i*kk+j,none⟩=some u/\∀hq:j<es[i].cells.length,VR G (es[i].cells[j]'hq) u:=by
    intro i hi j hj
    obtain⟨u,h1,h2⟩:=hobj'.cell hi hj
    rw[hLk] at h1
    exact⟨u,h1,λ_=>h2⟩
  refine⟨G',hle,?_,L,hL,hLk,hcap,hm,hcl,λi j=>if h':i<es.length/\j<kk then (hcells i h'.1 j h'.2).choose else undef,λi j hi hj=>?_,λi hi j hj=>?_⟩
  · have hs:=h.sub (rx S r k)
    refine⟨hs.below,λb o u e=>?_,λr' k' o g' e=>?_,hs.inj,hs.fin,hs.fing⟩
    · have e':(if b=L.block/\0<L.cap then (w.cell? ⟨b,o,none⟩) else G.imm b o)=some u:=e
      split at e'
      · exact e'
      · exact h.imm _ _ _ e'
    · have hne:¬(r'=r/\k'=k):=λhc=>by simp only[St.del] at e;rw[if_pos hc] at e;cases e
      have e0:=rx S r k _ _ _ e
      obtain⟨L',q1,q2,q3⟩:=h.obj _ _ _ _ e0
      refine⟨L',q1,q2.keep hle (λ_=>rfl),λhc=>⟨(q3 hc).1,λx=>?_⟩⟩
      show(if L'.block=L.block/\0<L.cap then (w.cell? ⟨L'.block,x,none⟩) else G.imm L'.block x)=none
      rw[if_neg (λhb=>h.inj _ _ _ _ _ _ _ _ _ _ e0 hS q1 hL hc hb.2 hne hb.1)]
      exact(q3 hc).2 x
  · show(if L.block=L.block/\0<L.cap then (w.cell? ⟨L.block,i*kk+j,none⟩) else G.imm L.block (i*kk+j))=some (dite _ _ _)
    rw[if_pos ⟨rfl,by omega⟩,dif_pos ⟨hi,hj⟩]
    exact(hcells i hi j hj).choose_spec.1
  · have hjk:j<kk:=by rw[<-hcl i hi];exact hj
    show VR G' _ (dite _ _ _)
    rw[dif_pos (⟨hi,hjk⟩:i<es.length/\j<kk)]
    exact((hcells i hi j hjk).choose_spec.2 hj).mono hle
def n6 (r k g kk:Nat) (es:List AV):AV->AV
  | .sl kk' r' k' g' off len=>if r'=r/\k'=k/\g'=g/\kk'=kk/\off+len<=es.length then .list ((es.drop off).take len) else .sl kk' r' k' g' off len
  | v=>v
def o6 (r k g kk:Nat) (es:List AV):AV->AV
  | .agg cs=>.agg (cs.map (n6 r k g kk es))
  | v=>n6 r k g kk es v
def frz (r k g kk:Nat) (es:List AV):AV->AV
  | .tuple vs=>.tuple (vs.map (o6 r k g kk es))
  | v=>o6 r k g kk es v
section
variable {G G':Ghost} {S:St} {w:World} {r k g kk:Nat} {es:List AV}
theorem nA {L:Loc} (hle:G.le G') (hL:G.loc r k g=some L) (hk:L.k=kk) (hcap:es.length<=L.cap) (hm:L.cap<=maxLen) (hcl:∀i (h:i<es.length),es[i].cells.length=kk)
    (u:Nat->Nat->Value) (h1:∀i j,i<es.length->j<kk->G'.imm L.block (i*kk+j)=some (u i j)) (h2:∀i (h:i<es.length) j (h':j<es[i].cells.length),VR G' es[i].cells[j] (u i j))
    {v:AV} {x:Value} (hv:VR G v x):VR G' (n6 r k g kk es v) x:=by
  cases v with
  | sl kk' r' k' g' off len=>
    simp only[n6]
    split
    · rename_i hc
      obtain⟨rfl,rfl,rfl,rfl,hlen⟩:=hc
      cases hv with
      | sl _ _ _ _ _ _ a L' hL' hk' hc' hm' ha=>
      obtain rfl:L'=L:=by rw[hL] at hL';exact(Option.some.inj hL').symm
      have hl:((es.drop off).take len).length=len:=by simp;omega
      refine .list _ a len (L'.cap-off) L'.block (off*kk') kk' (λi j=>u (off+i) j) hl.symm om om (λhp=>?_) (λi hi=>?_) (λi j hi hj=>?_) (λi hi j hj=>?_)
      · rw[ha om,hk]
      · simp only[List.getElem_take,List.getElem_drop];exact hcl _ _
      · have:=h1 (off+i) j om hj
        rw[Nat.add_mul,Nat.add_assoc] at this
        exact this
      · simp only[List.getElem_take,List.getElem_drop] at hj ⊢
        exact h2 _ _ j hj
    · exact hv.mono hle
  | _=>exact hv.mono hle
theorem oz {L:Loc} (hle:G.le G') (hL:G.loc r k g=some L) (hk:L.k=kk) (hcap:es.length<=L.cap) (hm:L.cap<=maxLen) (hcl:∀i (h:i<es.length),es[i].cells.length=kk)
    (u:Nat->Nat->Value) (h1:∀i j,i<es.length->j<kk->G'.imm L.block (i*kk+j)=some (u i j)) (h2:∀i (h:i<es.length) j (h':j<es[i].cells.length),VR G' es[i].cells[j] (u i j))
    {v:AV} {x:Value} (hv:VR G v x):VR G' (frz r k g kk es v) x:=by
  have two:∀(v:AV) (x:Value),VR G v x->VR G' (o6 r k g kk es v) x:=by
    intro v x hv
    cases v with
    | agg cs=>
      cases hv with
      | agg _ xs q1 q2=>
      refine .agg _ _ (by simpa using q1) (λi h h'=>?_)
      simp only[List.getElem_map]
      exact nA hle hL hk hcap hm hcl u h1 h2 (q2 i (by simpa using h) h')
    | _=>exact nA hle hL hk hcap hm hcl u h1 h2 hv
  cases v with
  | tuple vs=>
    cases hv with
    | tuple _ xs q1 q2=>
    refine .tuple _ _ (by simpa using q1) (λi h h'=>?_)
    simp only[List.getElem_map]
    exact two _ _ (q2 i (by simpa using h) h')
  | _=>exact two _ _ hv
end
theorem Wk.freeze {v:AV} {S:St} {r k g kk:Nat} {es:List AV} (hS:S r k=some (.arr kk es,g)):Wk v S (frz r k g kk es v) (S.del r k):=λG w x hr hv=>by
  obtain⟨G',hle,hr',L,a1,a2,a3,a4,a5,u,a6,a7⟩:=hr.freeze hS
  exact⟨G',hle,hr',oz hle a1 a2 a3 a4 a5 u a6 a7 hv⟩
theorem EWk.freezeAll {t:Env} {S:St} {r k g kk:Nat} {es:List AV} (hS:S r k=some (.arr kk es,g)):EWk t S (λi=>frz r k g kk es (t i)) (S.del r k):=λn G a w hr ht=>by
  obtain⟨G',hle,hr',L,a1,a2,a3,a4,a5,u,a6,a7⟩:=hr.freeze hS
  exact⟨G',hle,hr',ht.1.mono hle,ht.2.1,λi=>oz hle a1 a2 a3 a4 a5 u a6 a7 (ht.2.2 i)⟩
def VW (v v':AV):Prop:=∀(G:Ghost) (x:Value),VR G v x->VR G v' x
theorem VW.refl (v:AV):VW v v:=λ_ _ h=>h
theorem VW.junk (v:AV):VW v .junk:=λ_ _ _=>.junk _
theorem VW.nil:VW .nil (.list []):=λ_ _ h=>by
  cases h
  exact .list [] none 0 0 0 0 0 (λ_ _=>undef) rfl om (by simp[maxLen]) (λh=>om) (λi h=>by simp at h) (λi _ h=>om) (λi h=>by simp at h)
theorem VW.agg {cs cs':List AV} (hl:cs'.length=cs.length) (h:∀i (h:i<cs.length) (h':i<cs'.length),VW cs[i] cs'[i]):VW (.agg cs) (.agg cs'):=λG x hv=>by
  cases hv with
  | agg _ xs q1 q2=>exact .agg _ _ om (λi h1 h2=>h i om h1 _ _ (q2 i om h2))
theorem VW.tuple {cs cs':List AV} (hl:cs'.length=cs.length) (h:∀i (h:i<cs.length) (h':i<cs'.length),VW cs[i] cs'[i]):VW (.tuple cs) (.tuple cs'):=λG x hv=>by
  cases hv with
  | tuple _ xs q1 q2=>exact .tuple _ _ om (λi h1 h2=>h i om h1 _ _ (q2 i om h2))
def nz1:AV->AV | .nil=>.list [] | v=>v
def nz2:AV->AV | .agg cs=>.agg (cs.map nz1) | v=>nz1 v
def nz:AV->AV | .tuple cs=>.tuple (cs.map nz2) | v=>nz2 v
theorem Wk.of {v v':AV} {S:St} (h:VW v v'):Wk v S v' S:=λG _ x hr hv=>⟨G,Ghost.le.refl G,hr,h G x hv⟩
theorem cX.drop {R:AV->St->Prop} {v:AV} {S:St} (rg:Nat) (h:cX R v (S.clear rg)):cX R v S:=.wk (Wk.sub (so S rg)) h
theorem Rel.mat {G:Ghost} {S:St} {w:World} (hr:Rel G S w) (r k kk:Nat) (hk:0<kk):∃g G',G.le G'/\Rel G' (S.set r k (.arr kk []) g) w/\VR G' (.sl kk r k g 0 0) (.slice none 0 0):=by
  obtain⟨g,hg⟩:=hr.fresh r k
  obtain⟨G',q1,q2,_,q4⟩:=hr.put (grownRefl w) r k g (.arr kk []) ⟨0,0,kk,0⟩ (λb hb=>by cases hb) (λh=>by simp at h) (.inl hg)
    (λG' hle=>⟨by omega,rfl,by simp,by simp[maxLen],λi h=>by simp at h,λh=>by simp at h⟩)
  exact⟨g,G',q1,q4,VR.sl (G:=G') kk r k g 0 0 none _ q2 rfl (by simp) (by simp[maxLen]) (λh=>by simp at h)⟩
theorem Ctr.arg {P:Program} {f:FuncId} {as as':List AV} {S:St} {R:AV->St->Prop} (hl:as'.length=as.length) (hv:∀i (h:i<as.length) (h':i<as'.length),VW as[i] as'[i]) (h:Ctr P f as' S R):Ctr P f as S R:=
  ⟨h.1,λG w vs hr hvs=>h.2 G w vs hr ⟨hvs.1.trans hl.symm,λi h1 h2=>hv i om h1 G _ (hvs.2 i om h2)⟩⟩
end Go.Gg
namespace Go.Gg
abbrev Key:=Nat×Nat
abbrev Eff:=List Key×Option Key
abbrev Chg:=Option (Nat×Nat×(Nat->GObj×Nat))
def Chg.app (e:Chg) (g:Nat) (S:St):St:=match e with | none=>S | some (r,k,f)=>S.set r k (f g).1 (f g).2
def Chg.key (e:Chg):Option Key:=e.map λx=>(x.1,x.2.1)
structure CR where
  v:AV
  rd:List Key
  wr:Option (Nat×Nat×GObj×Nat)
def CR.app (u:CR) (S:St):St:=match u.wr with | none=>S | some (r,k,o,g)=>S.set r k o g
def CR.key (u:CR):Option Key:=u.wr.map λx=>(x.1,x.2.1)
def eF (l:List Key) (w:Option Key) (S' S:St):Prop:=(∀p∈l,S' p.1 p.2=S p.1 p.2)/\(∀p,w=some p->S' p.1 p.2=S p.1 p.2)
theorem eF.refl (l:List Key) (w:Option Key) (S:St):eF l w S S:=⟨λ_ _=>rfl,λ_ _=>rfl⟩
theorem eF.trans {l:List Key} {w:Option Key} {S S' S'':St} (h:eF l w S S') (h':eF l w S' S''):eF l w S S'':=⟨λp hp=>(h.1 p hp).trans (h'.1 p hp),λp hp=>(h.2 p hp).trans (h'.2 p hp)⟩
theorem eF.symm {l:List Key} {w:Option Key} {S S':St} (h:eF l w S S'):eF l w S' S:=⟨λp hp=>(h.1 p hp).symm,λp hp=>(h.2 p hp).symm⟩
def fpo (rg k:Nat) (u:CR) (o:Op) (e:Operand->AV):Eff:=match o with
  | .load _ x=>(match e x with | .ptr r k _ _ _=>[(r,k)] | _=>[],none)
  | .store _ a _=>([],match e a with | .ptr r k _ _ _=>some (r,k) | _=>none)
  | .alloc _ | .box .. | .makeSlice .. | .makeMap ..=>([],some (rg,k))
  | .lookup _ x _ _=>(match e x with | .map r k _=>[(r,k)] | _=>[],none)
  | .mapUpdate _ m _ _=>([],match e m with | .map r k _=>some (r,k) | _=>none)
  | .insert _ m _ _=>([],match e m with | .map r k _=>some (r,k) | _=>none)
  | .buildSlice ..=>(match u.v with | .list _=>([],none) | _=>([],some (rg,k)))
  | .call { callee:=.builtin .append,args:=xs,argTypes:=_ }=>match xs.toList with
    | [b,x]=>(match e x with | .sl _ r k _ _ _=>[(r,k)] | _=>[],match e b with | .sl _ r k _ _ _=>some (r,k) | _=>some (rg,k))
    | _=>([],none)
  | .call { callee:=.builtin .len,args:=xs,argTypes:=_ }=>match xs.toList with
    | [x]=>(match e x with | .map r k _=>[(r,k)] | _=>[],none)
    | _=>([],none)
  | .call { callee:=.value _,args:=_,argTypes:=_ }=>(u.rd,u.key)
  | _=>([],none)
def vBL (P:Program) (T:TypeId) (len:Nat) (idx:List Nat) (es:List AV) (K:AV->Prop):Prop:=
  match td P T with
  | .slice e=>((idx == List.range len)=true/\es.length=len/\cI P e=true/\len*(zav P e).cells.length<=16777216/\(es.all λx=>x.solid && (x.cells.length == (zav P e).cells.length))=true)/\K (.list es)
  | _=>False
theorem nP {P:Program} {n:Nat} {o:Oper} {t:Env} {S:St} {T:TypeId} {len:Nat} {parts:Array (Nat×Operand)} {K:AV->St->Prop} (ho:o.op = .buildSlice T len parts)
    (h:vBL P T len (parts.toList.map (·.1)) (parts.toList.map λp=>ev t p.2) (λv=>K v S)):SOp P n o t S K:=by
  intro ro G a w Kc Q hr ht hk
  obtain⟨r,hrf⟩:=hr.freshRegion
  unfold vBL at h
  split at h
  · rename_i e hd
    obtain⟨hc,hK⟩:=h
    refine i9 (K:=λv S'=>∃g,v = .sl (zav P e).cells.length r 0 g 0 len/\S'=S.set r 0 (.arr (zav P e).cells.length (parts.toList.map λp=>ev t p.2)) g) ho r 0 ?_ ro G a w Kc Q hr ht ?_
    · unfold cH;rw[hd];exact⟨hc,λg=>⟨g,rfl,rfl⟩⟩
    · rintro v av S' G' w' ⟨g,rfl,rfl⟩ hle hr' hv
      have hset:(S.set r 0 (.arr (zav P e).cells.length (parts.toList.map λp=>ev t p.2)) g) r 0=some (.arr (zav P e).cells.length (parts.toList.map λp=>ev t p.2),g):=by simp[St.set]
      obtain⟨G2,h1,h2,h3⟩:=Wk.freeze (v:=.sl (zav P e).cells.length r 0 g 0 len) hset G' w' v hr' hv
      have e1:frz r 0 g (zav P e).cells.length (parts.toList.map λp=>ev t p.2) (.sl (zav P e).cells.length r 0 g 0 len) = .list (parts.toList.map λp=>ev t p.2):=by
        have hl:=hc.2.1
        simp only[frz,o6,n6]
        rw[if_pos ⟨trivial,trivial,trivial,trivial,by omega⟩,List.drop_zero,<-hl,List.take_length]
      have e2:(S.set r 0 (.arr (zav P e).cells.length (parts.toList.map λp=>ev t p.2)) g).del r 0=S:=by
        funext r' k'
        simp only[St.del,St.set]
        by_cases hh:r'=r/\k'=0
        · rw[if_pos hh,hh.1,hh.2,hrf 0]
        · rw[if_neg hh,if_neg hh]
      rw[e1] at h3
      rw[e2] at h2
      exact hk v _ S G2 w' hK (hle.trans h1) h2 h3
  · exact h.elim
def vd (P:Program) (rg:Nat) (u:CR) (d:Option Nat) (o:Op) (e:Operand->AV) (S:St) (K:AV->St->Prop):Prop:=match o with
  | .call { callee:=.value f,args:=xs,argTypes:=_ }=>match e f with
    | .fn (.func g) fs caps=>(∀S',eF u.rd u.key S' S->Ctr P g (fs++(xs.toList.map e++caps)) S' (λv S''=>v=u.v/\S''=u.app S'))/\K u.v (u.app S)
    | _=>False
  | .buildSlice T len parts=>(match u.v with
    | .list _=>vBL P T len (parts.toList.map (·.1)) (parts.toList.map λp=>e p.2) (λv=>K v S)
    | _=>cH P rg (d.getD 0) T len (parts.toList.map (·.1)) (parts.toList.map λp=>e p.2) S K)
  | _=>bif uJ o then vl P rg (d.getD 0) o e S K else vq P o e S (λv=>K v S)
def NF (F:(Operand->AV)->St->(AV->St->Prop)->Prop) (xs:Array Operand) (E:Eff) (e:Operand->AV) (S:St):Prop:=
  ∃(c:Prop) (v:Nat->AV) (ch:Chg),(ch.key=none\/ch.key=E.2)/\∀(e':Operand->AV) (S':St),(∀x∈xs,e' x=e x)->eF E.1 E.2 S' S->∀K,F e' S' K↔c/\∀g,K (v g) (ch.app g S')
def NFQ (F:(AV->Prop)->Prop):Prop:=∃(c:Prop) (v:AV),∀K,F K↔c/\K v
theorem aA:NFQ (λ_=>False):=⟨False,.junk,λ_=>by simp⟩
theorem bq (v:AV):NFQ (λK=>K v):=⟨True,v,λ_=>by simp⟩
theorem b_ {A:Prop} {F:(AV->Prop)->Prop} (h:NFQ F):NFQ (λK=>A/\F K):=by
  obtain⟨c,v,h⟩:=h
  exact⟨A/\c,v,λK=>by show A/\F K↔_;rw[h K,and_assoc]⟩
theorem rV {A:Prop} {F F':(AV->Prop)->Prop} (h:NFQ F) (h':NFQ F'):NFQ (λK=>(A->F K)/\(¬A->F' K)):=by
  obtain⟨c,v,h⟩:=h
  obtain⟨c',v',h'⟩:=h'
  by_cases ha:A
  · exact⟨c,v,λK=>by simp[ha,h K]⟩
  · exact⟨c',v',λK=>by simp[ha,h' K]⟩
theorem tB (op:BinOp) (k:IntKind) (m n:Int):NFQ (lR op k m n):=by
  show NFQ (λK=>lR op k m n K)
  cases op<;>simp only[lR]<;>repeat (first | exact aA | exact bq _ | refine b_ ?_)
theorem rS (op:BinOp) (k:IntKind) (m n:Int):NFQ (jY op k m n):=by
  show NFQ (λK=>jY op k m n K)
  cases op<;>simp only[jY]<;>repeat (first | exact aA | exact bq _ | refine b_ ?_)
theorem uF (P:Program) (op:BinOp) (T:TypeId) (cs ds:List AV):NFQ (λK=>match cU P T with
    | some (.many ks)=>match j9 ks cs,j9 ks ds with
      | some m,some n=>(match op with | .eql=>K (.bool (decide (m=n))) | .neq=>K (.bool (!decide (m=n))) | _=>False)
      | _,_=>False
    | _=>False):=by
  generalize cU P T=o
  rcases o with _ | (k | ks)
  · exact aA
  · exact aA
  · simp only[]
    generalize j9 ks cs=a
    generalize j9 ks ds=b
    cases a<;>cases b<;>first
      | exact aA
      | (cases op<;>first | exact bq _ | exact aA)
theorem uG (P:Program) (op:BinOp) (T:TypeId) (x y:Operand) (a b:AV):NFQ (oH P op T x y a b):=by
  show NFQ (λK=>oH P op T x y a b K)
  cases a<;>cases b<;>simp only[oH]<;>first
    | exact aA
    | exact uF ..
    | (cases op<;>repeat (first | exact aA | exact bq _ | exact tB .. | exact rS .. | refine b_ ?_))
theorem v6 (op:UnOp) (a:AV):NFQ (vUn op a):=by
  show NFQ (λK=>vUn op a K)
  cases op<;>cases a<;>simp only[vUn]<;>repeat (first | exact aA | exact bq _ | refine b_ ?_)
theorem tz (P:Program) (T:TypeId) (a:AV) (S:St):NFQ (eH P T a S):=by
  show NFQ (λK=>eH P T a S K)
  cases a with
  | ptr r k g i off=>
    simp only[eH]
    cases S r k with
    | none=>exact aA
    | some p=>
      obtain⟨o,g'⟩:=p
      cases o<;>simp only[]<;>repeat (first | exact aA | exact bq _ | refine b_ ?_)
  | iptr cs=>simp only[eH];exact b_ (bq _)
  | _=>exact aA
theorem pS (P:Program) (T:TypeId) (x i:AV):NFQ (dH P T x i):=by
  show NFQ (λK=>dH P T x i K)
  cases i<;>simp only[dH]<;>try exact aA
  cases td P T<;>simp only[]<;>try exact aA
  all_goals (cases x<;>simp only[]<;>repeat (first | exact aA | exact bq _ | refine b_ ?_))
theorem rT (P:Program) (T:TypeId) (x i:AV):NFQ (gT P T x i):=by
  show NFQ (λK=>gT P T x i K)
  cases i<;>simp only[gT]<;>try exact aA
  cases x<;>simp only[]<;>try exact aA
  all_goals (cases td P T<;>simp only[]<;>repeat (first | exact aA | exact bq _ | refine b_ ?_))
theorem rR (P:Program) (T:TypeId) (x:AV) (lo hi mx:Option AV):NFQ (e_ P T x lo hi mx):=by
  show NFQ (λK=>e_ P T x lo hi mx K)
  unfold e_
  cases td P T<;>cases mx<;>simp only[]<;>try exact aA
  cases x<;>simp only[]<;>try exact aA
  · rename_i es
    cases bnd lo 0<;>cases bnd hi es.length<;>simp only[]<;>repeat (first | exact aA | exact bq _ | refine b_ ?_)
  · rename_i kk r k g off len
    cases bnd lo 0<;>cases bnd hi len<;>simp only[]<;>repeat (first | exact aA | exact bq _ | refine b_ ?_)
theorem n0 (P:Program) (T f:Nat) (x:AV):NFQ (cJ P T f x):=by
  show NFQ (λK=>cJ P T f x K)
  unfold cJ
  cases td P T<;>simp only[]<;>try exact aA
  cases x<;>simp only[]<;>repeat (first | exact aA | exact bq _ | refine b_ ?_)
theorem rU (P:Program) (T f:Nat) (x:AV):NFQ (iD P T f x):=by
  show NFQ (λK=>iD P T f x K)
  cases x<;>simp only[iD]<;>try exact aA
  cases td P T<;>simp only[]<;>repeat (first | exact aA | exact bq _ | refine b_ ?_)
theorem rW (P:Program) (T:Nat) (l:List (Nat×AV)):NFQ (gU P T l):=by
  show NFQ (λK=>gU P T l K)
  unfold gU
  cases td P T<;>simp only[]<;>repeat (first | exact aA | exact bq _ | refine b_ ?_)
theorem uE (P:Program) (T:Nat) (x:AV):NFQ (kY P T x):=by
  show NFQ (λK=>kY P T x K)
  unfold kY
  cases td P T<;>simp only[]<;>try exact aA
  cases x<;>simp only[]<;>repeat (first | exact aA | exact bq _ | refine b_ ?_)
theorem tA (P:Program) (T:Nat) (x:AV) (S:St):NFQ (eI P T x S):=by
  show NFQ (λK=>eI P T x S K)
  by_cases hm:∃r k g,x = .map r k g
  · obtain⟨r,k,g,rfl⟩:=hm
    simp only[eI]
    cases S r k with
    | none=>exact aA
    | some p=>
      obtain⟨o,g'⟩:=p
      cases o<;>simp only[]<;>try exact aA
      cases td P T<;>simp only[]<;>repeat (first | exact aA | exact bq _ | refine b_ ?_)
  · have e:(λK=>eI P T x S K)=kY P T x:=by
      funext K
      cases x<;>first | rfl | exact absurd ⟨_,_,_,rfl⟩ hm
    rw[e]
    exact uE P T x
theorem qy (P:Program) (T:Nat) (ok:Bool) (x i:AV) (S:St):NFQ (dY P T ok x i S):=by
  show NFQ (λK=>dY P T ok x i S K)
  cases x with
  | map r k g=>
    simp only[dY]
    cases S r k with
    | none=>exact aA
    | some p=>
      obtain⟨o,g'⟩:=p
      cases o with
      | arr kk es=>exact aA
      | lp r=>exact aA
      | mp sh n f=>
        simp only[]
        generalize td P T=t'
        generalize eR sh i=m'
        cases t'<;>cases m'<;>first | exact aA | exact b_ (bq _)
  | _=>exact aA
theorem po {P:Program} {T:TypeId} {a:AV} {S S':St} (h:∀r k g,a = .map r k g->S' r k=S r k):eI P T a S'=eI P T a S:=by
  funext K
  cases a with
  | map r k g=>have e:=h r k g rfl;simp only[eI,e]
  | _=>rfl
theorem nO {P:Program} {T:TypeId} {ok:Bool} {a i:AV} {S S':St} (h:∀r k g,a = .map r k g->S' r k=S r k):dY P T ok a i S'=dY P T ok a i S:=by
  funext K
  cases a with
  | map r k g=>have e:=h r k g rfl;simp only[dY,e]
  | _=>rfl
theorem qz (P:Program) (T:Nat) (ok:Bool) (x:AV):NFQ (gN P T ok x):=by
  show NFQ (λK=>gN P T ok x K)
  unfold gN
  refine b_ ?_
  cases x<;>simp only[]<;>first
    | (refine rV ?_ ?_
       · cases ok<;>exact bq _
       · repeat (first | exact aA | exact bq _ | refine b_ ?_))
    | repeat (first | exact aA | exact bq _ | refine b_ ?_)
theorem bB {F:(Operand->AV)->St->(AV->Prop)->Prop} {xs:Array Operand} {E:Eff} {e:Operand->AV} {S:St} (hc:∀e' S',(∀x∈xs,e' x=e x)->eF E.1 E.2 S' S->F e' S'=F e S) (h:NFQ (F e S)) :
    NF (λe S K=>F e S (λv=>K v S)) xs E e S:=by
  obtain⟨c,v,h⟩:=h
  refine⟨c,λ_=>v,none,.inl rfl,λe' S' he hS K=>?_⟩
  show F e' S' (λv=>K v S')↔_
  rw[hc e' S' he hS,h]
  simp[Chg.app]
theorem pn {P:Program} {T:TypeId} {a:AV} {S S':St} (h:∀r k g i off,a = .ptr r k g i off->S' r k=S r k):eH P T a S'=eH P T a S:=by
  funext K
  cases a<;>simp only[eH]
  rename_i r k g i off
  rw[h r k g i off rfl]
theorem qi {a:AV} {S S':St} (h:∀kk r k g off n,a = .sl kk r k g off n->S' r k=S r k):iB S' a=iB S a:=by
  cases a<;>simp only[iB]
  rename_i kk r k g off n
  rw[h kk r k g off n rfl]
theorem dc {xs:Array Operand} {E:Eff} {e:Operand->AV} {S:St}:NF (λ_ _ _=>False) xs E e S:=⟨False,λ_=>.junk,none,.inl rfl,λ_ _ _ _ _=>by simp⟩
theorem tC {P:Program} {T:TypeId} {m i x:Operand} {xs:Array Operand} {e:Operand->AV} {S:St} (q1:m∈xs) (q2:i∈xs) (q3:x∈xs):NF (λe S K=>cV P T (e m) (e i) (e x) S K) xs ([],match e m with | .map r k _=>some (r,k) | _=>none) e S:=by
  have hop:∀e':Operand->AV,(∀y∈xs,e' y=e y)->e' m=e m/\e' i=e i/\e' x=e x:=λe' he=>⟨he m q1,he i q2,he x q3⟩
  have hno:(∀(S':St),(∀r k g,e m = .map r k g->S' r k=S r k)->∀K,¬cV P T (e m) (e i) (e x) S' K)->NF (λe S K=>cV P T (e m) (e i) (e x) S K) xs ([],match e m with | .map r k _=>some (r,k) | _=>none) e S:=
    λhn=>⟨False,λ_=>.junk,none,.inl rfl,λe' S' he hS' K=>by
      obtain⟨a,b,c⟩:=hop e' he
      simp only[a,b,c,false_and,iff_false]
      refine hn S' (λr k g hm=>hS'.2 (r,k) ?_) K
      simp only[hm]⟩
  by_cases hm:∃r k g,e m = .map r k g
  · obtain⟨r,k,g,hm⟩:=hm
    cases hS:S r k with
    | none=>exact hno λS' h K hh=>by simp only[hm,cV,h r k g hm,hS] at hh
    | some p=>
      obtain⟨ob,g'⟩:=p
      cases ob with
      | arr kk es=>exact hno λS' h K hh=>by simp only[hm,cV,h r k g hm,hS] at hh
      | lp _=>exact hno λS' h K hh=>by simp only[hm,cV,h r k g hm,hS] at hh
      | mp sh n f=>
        cases hd:td P T with
        | map kt et=>
          cases hk:eR sh (e i) with
          | none=>exact hno λS' h K hh=>by simp only[hm,cV,h r k g hm,hS,hd,hk] at hh
          | some ns=>
            refine⟨g'=g/\cU P kt=some sh,λ_=>.junk,some (r,k,λ_=>(.mp sh (bif (f ns).isSome then n else n+1) (λq=>if q=ns then some (e x) else f q),g)),.inr (by simp[hm,Chg.key]),λe' S' he hS' K=>?_⟩
            obtain⟨a,b,c⟩:=hop e' he
            have h1:=hS'.2 (r,k) (by simp[hm])
            simp only[a,b,c,cV,hm,h1,hS,hd,hk,Chg.app,forall_const]
        | _=>exact hno λS' h K hh=>by simp only[hm,cV,h r k g hm,hS,hd] at hh
  · refine hno λS' h K hh=>?_
    unfold cV at hh
    split at hh
    · rename_i r k g hq;exact hm ⟨r,k,g,hq⟩
    · exact hh
theorem vp (P:Program) (rg:Nat) (u:CR) (d:Option Nat) (o:Op) (e:Operand->AV) (S:St):NF (λe S K=>vd P rg u d o e S K) o.operands (fpo rg (d.getD 0) u o e) e S:=by
  cases o with
  | move x=>exact bB (F:=λe _ K=>K (e x)) (λe' S' he _=>by simp only[he x (by simp[Op.operands])]) (bq _)
  | assign x=>exact bB (F:=λe _ K=>K (e x)) (λe' S' he _=>by simp only[he x (by simp[Op.operands])]) (bq _)
  | pick c a b=>
    refine bB (F:=λe _ K=>match e c with | .bool v=>K (bif v then e a else e b) | _=>False) (λe' S' he _=>by simp only[he c (by simp[Op.operands]),he a (by simp[Op.operands]),he b (by simp[Op.operands])]) ?_
    cases e c<;>first | exact bq _ | exact aA
  | binOp op T x y T'=>exact bB (F:=λe _ K=>oH P op T x y (e x) (e y) K) (λe' S' he _=>by simp only[he x (by simp[Op.operands]),he y (by simp[Op.operands])]) (uG ..)
  | unOp op T x=>exact bB (F:=λe _ K=>vUn op (e x) K) (λe' S' he _=>by simp only[he x (by simp[Op.operands])]) (v6 ..)
  | convert s T x=>
    refine bB (F:=λe _ K=>match e x,td P T,td P s with | .int _ n,.int k,.int _=>K (.int k (k.wrap n)) | _,_,_=>False) (λe' S' he _=>by simp only[he x (by simp[Op.operands])]) ?_
    generalize e x=a
    generalize td P T=b
    generalize td P s=c
    cases a<;>try exact aA
    cases b<;>try exact aA
    cases c<;>first | exact bq _ | exact aA
  | makeInterface T x=>
    exact bB (F:=λe _ K=>(match td P T with | .iface | .other=>False | _=>True)/\K (.iface T (e x))) (λe' S' he _=>by simp only[he x (by simp[Op.operands])]) (b_ (bq _))
  | makeFunc fn first caps=>
    refine bB (F:=λe _ K=>K (.fn fn (first.toList.map e) (caps.toList.map e))) (λe' S' he _=>?_) (bq _)
    have h1:first.toList.map e'=first.toList.map e:=List.map_congr_left λx hx=>he x (by simp[Op.operands] at hx ⊢;exact .inl hx)
    have h2:caps.toList.map e'=caps.toList.map e:=List.map_congr_left λx hx=>he x (by simp[Op.operands] at hx ⊢;exact .inr hx)
    simp only[h1,h2]
  | build T parts=>
    refine bB (F:=λe _ K=>gU P T (parts.toList.map λp=>(p.1,e p.2)) K) (λe' S' he _=>?_) (rW ..)
    have h1:(parts.toList.map λp=>(p.1,e' p.2))=parts.toList.map λp=>(p.1,e p.2):=List.map_congr_left λp hp=>by rw[he p.2 (by simp[Op.operands] at hp ⊢;exact⟨_,hp⟩)]
    simp only[h1]
  | load T x=>
    refine bB (F:=λe S K=>eH P T (e x) S K) (λe' S' he hS=>?_) (tz ..)
    have h1:=he x (by simp[Op.operands])
    simp only[h1]
    rw[pn (S:=S)]
    intro r k g i off hx
    have h2:=hS.1 (r,k)
    simp only[fpo,hx] at h2
    exact h2 (by simp)
  | lookup T x i ok=>
    refine bB (F:=λe S K=>dY P T ok (e x) (e i) S K) (λe' S' he hS=>?_) (qy ..)
    have h1:=he x (by simp[Op.operands])
    have h2:=he i (by simp[Op.operands])
    simp only[h1,h2]
    rw[nO (S:=S)]
    intro r k g hx
    have h2:=hS.1 (r,k)
    simp only[fpo,hx] at h2
    exact h2 (by simp)
  | makeMap T r=>
    show NF (λe S K=>gq P rg (d.getD 0) T (r.map e) S K) _ _ _ _
    have hr:∀e':Operand->AV,(∀x∈(Op.makeMap T r).operands,e' x=e x)->r.map e'=r.map e:=λe' he=>by
      cases r with
      | none=>rfl
      | some y=>simp only[Option.map_some,he y (by simp[Op.operands])]
    unfold gq
    cases td P T with
    | map kt et=>
      simp only[]
      cases cU P kt with
      | none=>exact dc
      | some sh=>
        refine⟨(match r.map e with | none=>True | some (.int _ _)=>True | _=>False),λg=>.map rg (d.getD 0) g,some (rg,d.getD 0,λg=>(.mp sh 0 (λ_=>none),g)),.inr rfl,λe' S' he hS' K=>?_⟩
        simp only[hr e' he,Chg.app]
        exact Iff.rfl
    | _=>exact dc
  | mapUpdate T m i x=>exact tC (by simp[Op.operands]) (by simp[Op.operands]) (by simp[Op.operands])
  | insert T m i x=>exact tC (by simp[Op.operands]) (by simp[Op.operands]) (by simp[Op.operands])
  | nilCheck x=>
    exact bB (F:=λe _ K=>(match e x with | .ptr .. | .iptr _=>True | .fn (.func _) _ _=>True | _=>False)/\K (e x)) (λe' S' he _=>by simp only[he x (by simp[Op.operands])]) (b_ (bq _))
  | fieldAddr T x f=>exact bB (F:=λe _ K=>cJ P T f (e x) K) (λe' S' he _=>by simp only[he x (by simp[Op.operands])]) (n0 ..)
  | field T x f=>exact bB (F:=λe _ K=>iD P T f (e x) K) (λe' S' he _=>by simp only[he x (by simp[Op.operands])]) (rU ..)
  | indexAddr T x i=>exact bB (F:=λe _ K=>dH P T (e x) (e i) K) (λe' S' he _=>by simp only[he x (by simp[Op.operands]),he i (by simp[Op.operands])]) (pS ..)
  | index T x i=>exact bB (F:=λe _ K=>gT P T (e x) (e i) K) (λe' S' he _=>by simp only[he x (by simp[Op.operands]),he i (by simp[Op.operands])]) (rT ..)
  | slice T x lo hi mx=>
    refine bB (F:=λe _ K=>e_ P T (e x) (lo.map e) (hi.map e) (mx.map e) K) (λe' S' he _=>?_) (rR ..)
    have h1:lo.map e'=lo.map e:=by cases lo with | none=>rfl | some y=>simp only[Option.map_some,he y (by simp[Op.operands])]
    have h2:hi.map e'=hi.map e:=by cases hi with | none=>rfl | some y=>simp only[Option.map_some,he y (by simp[Op.operands])]
    have h3:mx.map e'=mx.map e:=by cases mx with | none=>rfl | some y=>simp only[Option.map_some,he y (by simp[Op.operands])]
    simp only[h1,h2,h3,he x (by simp[Op.operands])]
  | extract x i=>
    refine bB (F:=λe _ K=>match e x with | .tuple vs=>i<vs.length/\K (vs.getD i .junk) | _=>False) (λe' S' he _=>by simp only[he x (by simp[Op.operands])]) ?_
    cases e x<;>first | exact b_ (bq _) | exact aA
  | typeAssert x a T ok=>exact bB (F:=λe _ K=>gN P T ok (e x) K) (λe' S' he _=>by simp only[he x (by simp[Op.operands])]) (qz ..)
  | alloc T=>exact⟨cI P T=true,λg=>.ptr rg (d.getD 0) g 0 0,some (rg,d.getD 0,λg=>(.arr (zav P T).cells.length [zav P T],g)),.inr rfl,λ_ _ _ _ _=>Iff.rfl⟩
  | box T x=>
    refine⟨(e x).solid=true/\0<(e x).cells.length,λg=>.ptr rg (d.getD 0) g 0 0,some (rg,d.getD 0,λg=>(.arr (e x).cells.length [e x],g)),.inr rfl,λe' S' he _ K=>?_⟩
    show(((e' x).solid=true/\0<(e' x).cells.length)/\∀g,K (.ptr rg (d.getD 0) g 0 0) (S'.set rg (d.getD 0) (.arr (e' x).cells.length [e' x]) g))↔_
    rw[he x (by simp[Op.operands])]
    exact Iff.rfl
  | store T a x=>
    show NF (λe S K=>e9 P T (e a) (e x) S K) _ _ _ _
    cases ha:e a with
    | ptr r k g i off=>
      cases hS:S r k with
      | none=>
        refine⟨False,λ_=>.junk,none,.inl rfl,λe' S' he hS' K=>?_⟩
        have h1:=hS'.2 (r,k) (by simp[fpo,ha])
        simp only[he a (by simp[Op.operands]),e9,ha,h1,hS,false_and]
      | some p=>
        obtain⟨ob,g'⟩:=p
        cases ob with
        | arr kk es=>
          refine⟨g'=g/\i<es.length/\0<sz P T/\(e x).cells.length=sz P T/\off+sz P T<=kk/\dt (e x).cells=true,λ_=>.junk,some (r,k,λ_=>(.arr kk (es.set i (stv (es.getD i .junk) off (e x))),g)),.inr (by simp[fpo,ha,Chg.key]),λe' S' he hS' K=>?_⟩
          have h1:=hS'.2 (r,k) (by simp[fpo,ha])
          simp only[he a (by simp[Op.operands]),he x (by simp[Op.operands]),e9,ha,h1,hS,Chg.app,forall_const]
        | mp sh n m=>
          refine⟨False,λ_=>.junk,none,.inl rfl,λe' S' he hS' K=>?_⟩
          have h1:=hS'.2 (r,k) (by simp[fpo,ha])
          simp only[he a (by simp[Op.operands]),e9,ha,h1,hS,false_and]
        | lp _=>
          refine⟨False,λ_=>.junk,none,.inl rfl,λe' S' he hS' K=>?_⟩
          have h1:=hS'.2 (r,k) (by simp[fpo,ha])
          simp only[he a (by simp[Op.operands]),e9,ha,h1,hS,false_and]
    | _=>
      refine⟨False,λ_=>.junk,none,.inl rfl,λe' S' he hS' K=>?_⟩
      simp only[he a (by simp[Op.operands]),e9,ha,false_and]
  | makeSlice T l c=>
    show NF (λe S K=>lQ P rg (d.getD 0) T (e l) (e c) S K) _ _ _ _
    unfold lQ
    cases hd:td P T with
    | slice el=>
      cases hl:e l with
      | int k1 n=>
        cases hc:e c with
        | int k2 m=>
          refine⟨(0<=n/\n<=m/\(bts P el:Int)*m<=281474976710656/\m<=9223372036854775807)/\cI P el=true,λg=>.sl (zav P el).cells.length rg (d.getD 0) g 0 n.toNat,some (rg,d.getD 0,λg=>(.arr (zav P el).cells.length (List.replicate n.toNat (zav P el)),g)),.inr rfl,λe' S' he hS' K=>?_⟩
          simp only[he l (by simp[Op.operands]),he c (by simp[Op.operands]),hl,hc,Chg.app,and_assoc]
        | _=>exact⟨False,λ_=>.junk,none,.inl rfl,λe' S' he hS' K=>by simp only[he l (by simp[Op.operands]),he c (by simp[Op.operands]),hl,hc,false_and]⟩
      | _=>exact⟨False,λ_=>.junk,none,.inl rfl,λe' S' he hS' K=>by simp only[he l (by simp[Op.operands]),hl,false_and]⟩
    | _=>exact dc
  | buildSlice T len parts=>
    have hno:NF (λe S K=>cH P rg (d.getD 0) T len (parts.toList.map (·.1)) (parts.toList.map λp=>e p.2) S K) (Op.buildSlice T len parts).operands ([],some (rg,d.getD 0)) e S:=by
      unfold cH
      cases hd:td P T with
      | slice el=>
        refine⟨((parts.toList.map (·.1)) == List.range len)=true/\(parts.toList.map λp=>e p.2).length=len/\cI P el=true/\len*(zav P el).cells.length<=16777216/\((parts.toList.map λp=>e p.2).all λx=>x.solid && (x.cells.length == (zav P el).cells.length))=true,
          λg=>.sl (zav P el).cells.length rg (d.getD 0) g 0 len,some (rg,d.getD 0,λg=>(.arr (zav P el).cells.length (parts.toList.map λp=>e p.2),g)),.inr rfl,λe' S' he hS' K=>?_⟩
        have h1:(parts.toList.map λp=>e' p.2)=parts.toList.map λp=>e p.2:=List.map_congr_left λp hp=>he p.2 (by simp[Op.operands] at hp ⊢;exact⟨_,hp⟩)
        simp only[h1,Chg.app]
      | _=>exact dc
    have hpl:NF (λe S K=>vBL P T len (parts.toList.map (·.1)) (parts.toList.map λp=>e p.2) (λv=>K v S)) (Op.buildSlice T len parts).operands ([],none) e S:=by
      refine bB (F:=λe _ K=>vBL P T len (parts.toList.map (·.1)) (parts.toList.map λp=>e p.2) K) (λe' S' he _=>?_) ?_
      · have h1:(parts.toList.map λp=>e' p.2)=parts.toList.map λp=>e p.2:=List.map_congr_left λp hp=>he p.2 (by simp[Op.operands] at hp ⊢;exact⟨_,hp⟩)
        simp only[h1]
      · unfold vBL
        cases td P T<;>first | exact b_ (bq _) | exact aA
    obtain⟨uv,rd,wr⟩:=u
    cases uv<;>first | exact hpl | exact hno
  | call c=>
    obtain⟨callee,xs,ts⟩:=c
    cases callee with
    | invoke r m=>exact dc
    | value f=>
      show NF (λe S K=>match e f with
        | .fn (.func g) fs caps=>(∀S',eF u.rd u.key S' S->Ctr P g (fs++(xs.toList.map e++caps)) S' (λv S''=>v=u.v/\S''=u.app S'))/\K u.v (u.app S)
        | _=>False) _ _ _ _
      have hx:∀e':Operand->AV,(∀x∈Op.operands (.call { callee:=.value f,args:=xs,argTypes:=ts }),e' x=e x)->e' f=e f/\xs.toList.map e'=xs.toList.map e:=λe' he=>by
        refine⟨he f (by simp[Op.operands,Call.operands]),List.map_congr_left λx hx=>he x ?_⟩
        simp only[Op.operands,Call.operands]
        simp at hx ⊢
        exact .inr hx
      generalize hf:e f=ef
      by_cases hq:∃g fs caps,ef = .fn (.func g) fs caps
      · obtain⟨g,fs,caps,rfl⟩:=hq
        refine⟨∀S',eF u.rd u.key S' S->Ctr P g (fs++(xs.toList.map e++caps)) S' (λv S''=>v=u.v/\S''=u.app S'),λ_=>u.v,u.wr.map (λx=>(x.1,x.2.1,λ_=>(x.2.2.1,x.2.2.2))),?_,λe' S' he hS' K=>?_⟩
        · right;show _=u.key;unfold CR.key Chg.key;cases u.wr<;>rfl
        · obtain⟨h1,h2⟩:=hx e' he
          simp only[h1,h2,hf]
          have hA:∀X:St,eF u.rd u.key X S'↔eF u.rd u.key X S:=λX=>⟨λh=>h.trans hS',λh=>h.trans hS'.symm⟩
          have hB:∀g,Chg.app (u.wr.map (λx=>(x.1,x.2.1,λ_=>(x.2.2.1,x.2.2.2)))) g S'=u.app S':=λg=>by unfold CR.app Chg.app;cases u.wr<;>rfl
          simp only[hA,hB,forall_const]
      · refine⟨False,λ_=>.junk,none,.inl rfl,λe' S' he hS' K=>?_⟩
        obtain⟨h1,h2⟩:=hx e' he
        simp only[h1,hf,false_and,iff_false]
        split
        · rename_i g fs caps;exact λ_=>hq ⟨_,_,_,rfl⟩
        · simp
    | builtin b=>
      obtain⟨l,rfl⟩:∃l:List Operand,xs=l.toArray:=⟨xs.toList,by simp⟩
      obtain⟨ts,rfl⟩:∃l:List TypeId,ts=l.toArray:=⟨ts.toList,by simp⟩
      cases b with
      | append=>
        rcases l with _ | ⟨b,_ | ⟨x,_ | ⟨_,_⟩⟩⟩<;>try exact dc
        rcases ts with _ | ⟨T,_ | ⟨T',_ | ⟨_,_⟩⟩⟩<;>try exact dc
        show NF (λe S K=>T=T'/\cQ P rg (d.getD 0) T (e b) (e x) S K) _ _ _ _
        have hE:fpo rg (d.getD 0) u (.call { callee:=.builtin .append,args:=[b,x].toArray,argTypes:=[T,T'].toArray }) e=(match e x with | .sl _ r k _ _ _=>[(r,k)] | _=>[],match e b with | .sl _ r k _ _ _=>some (r,k) | _=>some (rg,d.getD 0)):=rfl
        rw[hE]
        have hop:∀e':Operand->AV,(∀y∈Op.operands (.call { callee:=.builtin .append,args:=[b,x].toArray,argTypes:=[T,T'].toArray }),e' y=e y)->e' b=e b/\e' x=e x:=λe' he=>⟨he b (by simp[Op.operands,Call.operands]),he x (by simp[Op.operands,Call.operands])⟩
        have hno:(∀(e':Operand->AV) (S':St),(∀y∈Op.operands (.call { callee:=.builtin .append,args:=[b,x].toArray,argTypes:=[T,T'].toArray }),e' y=e y)->eF (match e x with | .sl _ r k _ _ _=>[(r,k)] | _=>[]) (match e b with | .sl _ r k _ _ _=>some (r,k) | _=>some (rg,d.getD 0)) S' S->∀K,¬(T=T'/\cQ P rg (d.getD 0) T (e' b) (e' x) S' K))->
            NF (λe S K=>T=T'/\cQ P rg (d.getD 0) T (e b) (e x) S K) (Op.operands (.call { callee:=.builtin .append,args:=[b,x].toArray,argTypes:=[T,T'].toArray })) (match e x with | .sl _ r k _ _ _=>[(r,k)] | _=>[],match e b with | .sl _ r k _ _ _=>some (r,k) | _=>some (rg,d.getD 0)) e S:=
          λh=>⟨False,λ_=>.junk,none,.inl rfl,λe' S' he hS' K=>by simp only[false_and,iff_false];exact h e' S' he hS' K⟩
        have hview:∀S',eF (match e x with | .sl _ r k _ _ _=>[(r,k)] | _=>[]) (match e b with | .sl _ r k _ _ _=>some (r,k) | _=>some (rg,d.getD 0)) S' S->iB S' (e x)=iB S (e x):=λS' hS'=>qi λkk r k g off n hx=>by
          have:=hS'.1 (r,k)
          simp only[hx] at this
          exact this (by simp)
        cases hd:td P T with
        | slice el=>
          cases hv:iB S (e x) with
          | none=>
            exact hno λe' S' he hS' K h=>by
              obtain⟨h1,h2⟩:=hop e' he
              simp only[cQ,hd,h2,hview S' hS',hv] at h
              exact h.2
          | some ys=>
            cases hb:e b with
            | nil=>
              refine⟨T=T'/\(cI P el=true/\(ys.all λx=>dt x.cells && (x.cells.length == (zav P el).cells.length))=true)/\ys.length*bts P el<=140737488355328/\ys.length<=9223372036854775807,
                λg=>.sl (zav P el).cells.length rg (d.getD 0) g 0 ys.length,some (rg,d.getD 0,λg=>(.arr (zav P el).cells.length ys,g)),.inr rfl,λe' S' he hS' K=>?_⟩
              obtain⟨h1,h2⟩:=hop e' he
              rw[hb] at h1
              have h3:=hview S' (by rw[hb];exact hS')
              simp only[cQ,hd,h2,h3,hv,h1,Chg.app,and_assoc]
            | sl kk r k' g off n=>
              cases hS:S r k' with
              | none=>
                exact hb▸hno λe' S' he hS' K h=>by
                  obtain⟨h1,h2⟩:=hop e' he
                  have h4:=hS'.2 (r,k') (by simp only[hb])
                  simp only[cQ,hd,h2,hview S' hS',hv,h1,hb,h4,hS] at h
                  exact h.2.2
              | some p=>
                obtain⟨ob,g'⟩:=p
                cases ob with
                | mp sh a m=>
                  exact hb▸hno λe' S' he hS' K h=>by
                    obtain⟨h1,h2⟩:=hop e' he
                    have h4:=hS'.2 (r,k') (by simp only[hb])
                    simp only[cQ,hd,h2,hview S' hS',hv,h1,hb,h4,hS] at h
                    exact h.2.2
                | lp _=>
                  exact hb▸hno λe' S' he hS' K h=>by
                    obtain⟨h1,h2⟩:=hop e' he
                    have h4:=hS'.2 (r,k') (by simp only[hb])
                    simp only[cQ,hd,h2,hview S' hS',hv,h1,hb,h4,hS] at h
                    exact h.2.2
                | arr kk' es=>
                  refine⟨T=T'/\(cI P el=true/\(ys.all λx=>dt x.cells && (x.cells.length == (zav P el).cells.length))=true)/\(g'=g/\off=0/\kk'=kk/\kk=(zav P el).cells.length/\n=es.length)/\((es.length+ys.length)*bts P el<=140737488355328/\es.length+ys.length<=9223372036854775807),
                    λg=>.sl kk r k' g 0 (es.length+ys.length),some (r,k',λg=>(.arr kk (es++ys),g)),.inr rfl,λe' S' he hS' K=>?_⟩
                  obtain⟨h1,h2⟩:=hop e' he
                  rw[hb] at h1
                  have h3:=hview S' (by rw[hb];exact hS')
                  have h4:=hS'.2 (r,k') rfl
                  simp only[cQ,hd,h2,h3,hv,h1,h4,hS,Chg.app,and_assoc]
            | _=>
              exact hb▸hno λe' S' he hS' K h=>by
                obtain⟨h1,h2⟩:=hop e' he
                simp only[cQ,hd,h2,hview S' hS',hv,h1,hb] at h
                exact h.2.2
        | _=>
          exact hno λe' S' he hS' K h=>by
            simp only[cQ,hd] at h
            exact h.2
      | len=>
        rcases l with _ | ⟨x,_ | ⟨_,_⟩⟩<;>try exact dc
        rcases ts with _ | ⟨T,_ | ⟨_,_⟩⟩<;>try exact dc
        refine bB (F:=λe S K=>eI P T (e x) S K) (λe' S' he hS=>?_) (tA ..)
        have h1:=he x (by simp[Op.operands,Call.operands])
        simp only[h1]
        rw[po (S:=S)]
        intro r k g hx
        have h2:=hS.1 (r,k)
        simp only[fpo,hx] at h2
        exact h2 (by simp)
      | max=>
        rcases l with _ | ⟨x,_ | ⟨y,_ | ⟨_,_⟩⟩⟩<;>try exact dc
        refine bB (F:=λe _ K=>(match e x,e y with | .int k m,.int _ n=>K (.int k (if m<n then n else m)) | _,_=>False)) (λe' S' he _=>by simp only[he x (by simp[Op.operands,Call.operands]),he y (by simp[Op.operands,Call.operands])]) ?_
        generalize e x=a
        generalize e y=b
        cases a<;>cases b<;>first | exact bq _ | exact aA
      | min=>
        rcases l with _ | ⟨x,_ | ⟨y,_ | ⟨z,_ | ⟨_,_⟩⟩⟩⟩<;>try exact dc
        · refine bB (F:=λe _ K=>(match e x,e y with | .int k m,.int _ n=>K (.int k (if n<m then n else m)) | _,_=>False)) (λe' S' he _=>by simp only[he x (by simp[Op.operands,Call.operands]),he y (by simp[Op.operands,Call.operands])]) ?_
          generalize e x=a
          generalize e y=b
          cases a<;>cases b<;>first | exact bq _ | exact aA
        · refine bB (F:=λe _ K=>(match e x,e y,e z with | .int k m,.int _ n,.int _ q=>K (.int k (if q<(if n<m then n else m) then q else (if n<m then n else m))) | _,_,_=>False)) (λe' S' he _=>by simp only[he x (by simp[Op.operands,Call.operands]),he y (by simp[Op.operands,Call.operands]),he z (by simp[Op.operands,Call.operands])]) ?_
          generalize e x=a
          generalize e y=b
          generalize e z=c
          cases a<;>try exact aA
          cases b<;>try exact aA
          cases c<;>first | exact bq _ | exact aA
      | _=>exact dc
  | _=>exact dc
end Go.Gg
namespace Go.Gg
abbrev WE:=Nat×Nat×GObj×Nat
def dr:List WE->St->St
  | [],S=>S
  | x :: m,S=>(dr m S).set x.1 x.2.1 x.2.2.1 x.2.2.2
abbrev jJ:=List Key×List Key
abbrev Gen:=Nat->Nat
structure CR2 where
  v:Gen->AV
  rd:List Key
  wk:List Key
  wr:Gen->List WE
  pl:Bool
def bj (l:List Key) (S' S:St):Prop:=∀p∈l,S' p.1 p.2=S p.1 p.2
theorem bj.refl (l:List Key) (S:St):bj l S S:=λ_ _=>rfl
theorem bj.trans {l:List Key} {S S' S'':St} (h:bj l S S') (h':bj l S' S''):bj l S S'':=λp hp=>(h p hp).trans (h' p hp)
theorem bj.symm {l:List Key} {S S':St} (h:bj l S S'):bj l S' S:=λp hp=>(h p hp).symm
theorem s7 {S:St} {r k r' k' g g':Nat} {o o':GObj} (h:¬(r=r'/\k=k')):(S.set r k o g).set r' k' o' g'=(S.set r' k' o' g').set r k o g:=by
  funext x y
  simp only[St.set]
  by_cases h1:x=r'/\y=k'
  · rw[if_pos h1,if_neg (λh2=>h ⟨h2.1.symm.trans h1.1,h2.2.symm.trans h1.2⟩),if_pos h1]
  · rw[if_neg h1,if_neg h1]
theorem qg {x:WE}:∀ {m:List WE} {S:St},(∀y∈m,¬(x.1=y.1/\x.2.1=y.2.1))->dr m (S.set x.1 x.2.1 x.2.2.1 x.2.2.2)=(dr m S).set x.1 x.2.1 x.2.2.1 x.2.2.2
  | [],_,_=>rfl
  | y :: m,S,h=>by
    have h1:=h y (by simp)
    show(dr m (S.set x.1 x.2.1 x.2.2.1 x.2.2.2)).set y.1 y.2.1 y.2.2.1 y.2.2.2=((dr m S).set y.1 y.2.1 y.2.2.1 y.2.2.2).set x.1 x.2.1 x.2.2.1 x.2.2.2
    rw[qg (λz hz=>h z (by simp[hz])),s7 h1]
theorem oC {b:List WE} {S:St}:∀ {a:List WE},(∀x∈a,∀y∈b,¬(x.1=y.1/\x.2.1=y.2.1))->dr b (dr a S)=dr a (dr b S)
  | [],_=>rfl
  | x :: a,h=>by
    show dr b ((dr a S).set x.1 x.2.1 x.2.2.1 x.2.2.2)=(dr a (dr b S)).set x.1 x.2.1 x.2.2.1 x.2.2.2
    rw[qg (λy hy=>h x (by simp) y hy),oC (λz hz y hy=>h z (by simp[hz]) y hy)]
theorem gM {l:List Key} {S:St}:∀ {m:List WE},(∀x∈m,(x.1,x.2.1)∉l)->bj l (dr m S) S
  | [],_=>bj.refl l S
  | x :: m,h=>λp hp=>by
    show(if p.1=x.1/\p.2=x.2.1 then some (x.2.2.1,x.2.2.2) else dr m S p.1 p.2)=S p.1 p.2
    rw[if_neg (λhc=>h x (by simp) (by
      have:p=(x.1,x.2.1):=Prod.ext hc.1 hc.2
      rw[<-this];exact hp))]
    exact gM (λy hy=>h y (by simp[hy])) p hp
def jcr:CR:=⟨.junk,[],none⟩
def lcr:CR:=⟨.list [],[],none⟩
def pK (u:CR2):Op->Bool
  | .makeSlice ..=>u.pl
  | .call { callee:=.builtin .append,.. }=>u.pl
  | _=>false
def vPL (P:Program) (rg:Nat) (u:CR2) (d:Option Nat) (o:Op) (e:Operand->AV) (S:St) (K:AV->St->Prop):Prop:=match u.wk with
  | []=>(∀r S,vd P r jcr d o e S (λv S'=>∃kk g es,v = .sl kk r (d.getD 0) g 0 es.length/\S'=S.set r (d.getD 0) (.arr kk es) g/\VW (.list es) (u.v (λ_=>0))))/\K (u.v (λ_=>0)) S
  | _ :: _=>((∀γ,∀x∈u.wr γ,(x.1,x.2.1)∈u.wk)/\∀S',bj u.rd S' S->bj u.wk S' S->vd P rg jcr d o e S' (λv S''=>cX (λv' S3=>∃γ,v'=u.v γ/\S3=dr (u.wr γ) S') v S''))/\∀γ,K (u.v γ) (dr (u.wr γ) S)
def mc (rg k:Nat) (u:CR2) (o:Op) (e:Operand->AV):jJ:=match o with
  | .call { callee:=.value _,args:=_,argTypes:=_ }=>(u.rd,u.wk)
  | .buildSlice ..=>([],bif u.pl then [] else [(rg,k)])
  | _=>((fpo rg k jcr o e).1,(fpo rg k jcr o e).2.toList)
def iq (rg k:Nat) (u:CR2) (o:Op) (e:Operand->AV):jJ:=bif pK u o then (u.rd,u.wk) else mc rg k u o e
def nN (P:Program) (rg:Nat) (u:CR2) (d:Option Nat) (o:Op) (e:Operand->AV) (S:St) (K:AV->St->Prop):Prop:=match o with
  | .call { callee:=.value f,args:=xs,argTypes:=_ }=>match e f with
    | .fn (.func g) fs caps=>((∀γ,∀x∈u.wr γ,(x.1,x.2.1)∈u.wk)/\∀S',bj u.rd S' S->bj u.wk S' S->Ctr P g (fs++(xs.toList.map e++caps)) S' (λv S''=>∃γ,v=u.v γ/\S''=dr (u.wr γ) S'))/\∀γ,K (u.v γ) (dr (u.wr γ) S)
    | _=>False
  | .buildSlice T len parts=>vd P rg (bif u.pl then lcr else jcr) d (.buildSlice T len parts) e S K
  | o=>vd P rg jcr d o e S K
def vd2 (P:Program) (rg:Nat) (u:CR2) (d:Option Nat) (o:Op) (e:Operand->AV) (S:St) (K:AV->St->Prop):Prop:=bif pK u o then vPL P rg u d o e S K else nN P rg u d o e S K
def NF2 (F:(Operand->AV)->St->(AV->St->Prop)->Prop) (xs:Array Operand) (E:jJ) (e:Operand->AV) (S:St):Prop:=
  ∃(c:Prop) (v:Gen->AV) (ch:Gen->List WE),(c->∀γ,∀x∈ch γ,(x.1,x.2.1)∈E.2)/\∀(e':Operand->AV) (S':St),(∀x∈xs,e' x=e x)->bj E.1 S' S->bj E.2 S' S->∀K,F e' S' K↔c/\∀γ,K (v γ) (dr (ch γ) S')
theorem NF.to2 {F:(Operand->AV)->St->(AV->St->Prop)->Prop} {xs:Array Operand} {l:List Key} {w:Option Key} {e:Operand->AV} {S:St} (h:NF F xs (l,w) e S):NF2 F xs (l,w.toList) e S:=by
  obtain⟨c,v,ch,hk,hF⟩:=h
  refine⟨c,λγ=>v (γ 0),λγ=>match ch with | none=>[] | some (r,k,f)=>[(r,k,(f (γ 0)).1,(f (γ 0)).2)],λ_ γ x hx=>?_,λe' S' he h1 h2 K=>?_⟩
  · cases ch with
    | none=>simp at hx
    | some y=>
      obtain⟨r,k,f⟩:=y
      obtain rfl:x=(r,k,(f (γ 0)).1,(f (γ 0)).2):=by simpa using hx
      rcases hk with hk | hk
      · cases hk
      · rw[<-(show some (r,k)=w from hk)];simp
  · rw[hF e' S' he ⟨h1,λp hp=>h2 p (show p∈w.toList by rw[show w=some p from hp];simp)⟩ K]
    refine and_congr_right λ_=>⟨λh γ=>?_,λh g=>?_⟩
    · have:=h (γ 0)
      cases ch<;>exact this
    · have:=h (λ_=>g)
      cases ch<;>exact this
theorem kD {P:Program} {rg:Nat} {u:CR2} {d:Option Nat} {o:Op} {e:Operand->AV} {S:St} {c:CR} (h1:∀e S K,nN P rg u d o e S K=vd P rg c d o e S K) (h2:mc rg (d.getD 0) u o e=((fpo rg (d.getD 0) c o e).1,(fpo rg (d.getD 0) c o e).2.toList)) :
    NF2 (λe S K=>nN P rg u d o e S K) o.operands (mc rg (d.getD 0) u o e) e S:=by
  have h3:(λ(e:Operand->AV) (S:St) (K:AV->St->Prop)=>nN P rg u d o e S K)=λe S K=>vd P rg c d o e S K:=by
    funext e S K;exact h1 e S K
  rw[h2,h3]
  exact NF.to2 (vp P rg c d o e S)
theorem uH (P:Program) (rg:Nat) (u:CR2) (d:Option Nat) (o:Op) (e:Operand->AV) (S:St):NF2 (λe S K=>nN P rg u d o e S K) o.operands (mc rg (d.getD 0) u o e) e S:=by
  cases o with
  | buildSlice T len parts=>
    obtain⟨uv,rd,wk,wr,pl⟩:=u
    cases pl
    · exact kD (c:=jcr) (λ_ _ _=>rfl) rfl
    · exact kD (c:=lcr) (λ_ _ _=>rfl) rfl
  | call c=>
    obtain⟨callee,xs,ts⟩:=c
    cases callee with
    | invoke r m=>exact kD (c:=jcr) (λ_ _ _=>rfl) rfl
    | builtin b=>exact kD (c:=jcr) (λ_ _ _=>rfl) rfl
    | value f=>
      show NF2 (λe S K=>match e f with
        | .fn (.func g) fs caps=>((∀γ,∀x∈u.wr γ,(x.1,x.2.1)∈u.wk)/\∀S',bj u.rd S' S->bj u.wk S' S->Ctr P g (fs++(xs.toList.map e++caps)) S' (λv S''=>∃γ,v=u.v γ/\S''=dr (u.wr γ) S'))/\∀γ,K (u.v γ) (dr (u.wr γ) S)
        | _=>False) _ (u.rd,u.wk) _ _
      have hx:∀e':Operand->AV,(∀x∈Op.operands (.call { callee:=.value f,args:=xs,argTypes:=ts }),e' x=e x)->e' f=e f/\xs.toList.map e'=xs.toList.map e:=λe' he=>by
        refine⟨he f (by simp[Op.operands,Call.operands]),List.map_congr_left λx hx=>he x ?_⟩
        simp only[Op.operands,Call.operands]
        simp at hx ⊢
        exact .inr hx
      generalize hf:e f=ef
      by_cases hq:∃g fs caps,ef = .fn (.func g) fs caps
      · obtain⟨g,fs,caps,rfl⟩:=hq
        refine⟨(∀γ,∀x∈u.wr γ,(x.1,x.2.1)∈u.wk)/\∀S',bj u.rd S' S->bj u.wk S' S->Ctr P g (fs++(xs.toList.map e++caps)) S' (λv S''=>∃γ,v=u.v γ/\S''=dr (u.wr γ) S'),u.v,u.wr,λhc=>hc.1,λe' S' he h1' h2' K=>?_⟩
        obtain⟨h1,h2⟩:=hx e' he
        simp only[h1,h2,hf]
        have hA:∀X:St,bj u.rd X S'↔bj u.rd X S:=λX=>⟨λh=>h.trans h1',λh=>h.trans h1'.symm⟩
        have hB:∀X:St,bj u.wk X S'↔bj u.wk X S:=λX=>⟨λh=>h.trans h2',λh=>h.trans h2'.symm⟩
        simp only[hA,hB]
      · refine⟨False,λ_=>.junk,λ_=>[],λh=>h.elim,λe' S' he h1' h2' K=>?_⟩
        obtain⟨h1,h2⟩:=hx e' he
        simp only[h1,hf,false_and,iff_false]
        split
        · rename_i g fs caps;exact λ_=>hq ⟨_,_,_,rfl⟩
        · simp
  | _=>exact kD (c:=jcr) (λ_ _ _=>rfl) rfl
theorem v7 (P:Program) (rg:Nat) (u:CR2) (d:Option Nat) (o:Op) (e:Operand->AV) (S:St):NF2 (λe S K=>vd2 P rg u d o e S K) o.operands (iq rg (d.getD 0) u o e) e S:=by
  cases hp:pK u o with
  | false=>
    have:=uH P rg u d o e S
    simpa only[vd2,iq,hp,cond_false] using this
  | true=>
    simp only[vd2,iq,hp,cond_true]
    clear hp
    have hc:∀r S K e',(∀x∈o.operands,e' x=e x)->(vd P r jcr d o e' S K↔vd P r jcr d o e S K):=λr S K e' he=>by
      obtain⟨c,v,ch,_,hF⟩:=vp P r jcr d o e S
      exact(hF e' S he (eF.refl _ _ S) K).trans (hF e S (λ_ _=>rfl) (eF.refl _ _ S) K).symm
    obtain⟨uv,rd,wk,wr,pl⟩:=u
    cases wk with
    | nil=>
      refine⟨∀r S,vd P r jcr d o e S (λv S'=>∃kk g es,v = .sl kk r (d.getD 0) g 0 es.length/\S'=S.set r (d.getD 0) (.arr kk es) g/\VW (.list es) (uv (λ_=>0))),λ_=>uv (λ_=>0),λ_=>[],λ_ _ x hx=>by simp at hx,λe' S' he _ _ K=>?_⟩
      exact and_congr ⟨λh r S=>(hc r S _ e' he).1 (h r S),λh r S=>(hc r S _ e' he).2 (h r S)⟩ ⟨λh _=>h,λh=>h (λ_=>0)⟩
    | cons q wk=>
      refine⟨(∀γ,∀x∈wr γ,(x.1,x.2.1)∈q :: wk)/\∀S',bj rd S' S->bj (q :: wk) S' S->vd P rg jcr d o e S' (λv S''=>cX (λv' S3=>∃γ,v'=uv γ/\S3=dr (wr γ) S') v S''),uv,wr,λhh=>hh.1,λe' S' he h1 h2 K=>?_⟩
      refine and_congr (and_congr_right λ_=>⟨λh X a b=>?_,λh X a b=>?_⟩) Iff.rfl
      · exact(hc rg X _ e' he).1 (h X (a.trans h1.symm) (b.trans h2.symm))
      · exact(hc rg X _ e' he).2 (h X (a.trans h1) (b.trans h2))
theorem rK {P:Program} {n:Nat} {o:Oper} {t:Env} {S:St} {R K:AV->St->Prop} (h:SOp P n o t S (λv S'=>cX R v S')) (hR:∀v S',R v S'->K v S'):SOp P n o t S K:=by
  intro ro G a w Kc Q hr ht hk
  refine h ro G a w Kc Q hr ht ?_
  rintro v av S' G' w' hG hle hr' hv
  obtain⟨v2,S2,G2,b0,b1,b2,b3⟩:=hG G' w' v hr' hv
  exact hk v v2 S2 G2 w' (hR _ _ b0) (hle.trans b1) b2 b3
theorem vK {P:Program} {n rg:Nat} {u:CR2} {o:Oper} {t:Env} {S:St} {K:AV->St->Prop} (hv:∀r K,vd P r jcr o.dst o.op (ev t) S K->SOp P n o t S K) (h:vPL P rg u o.dst o.op (ev t) S K):SOp P n o t S K:=by
  obtain⟨uv,rd,wk,wr,pl⟩:=u
  cases wk with
  | cons q wk=>
    obtain⟨⟨_,hc⟩,hK⟩:=h
    refine rK (hv rg _ (hc S (bj.refl _ S) (bj.refl _ S))) ?_
    rintro v S' ⟨γ,rfl,rfl⟩
    exact hK γ
  | nil=>
  intro ro G a w Kc Q hr ht hk
  obtain⟨r,hrf⟩:=hr.freshRegion
  obtain⟨hc,hK⟩:=h
  refine hv r _ (hc r S) ro G a w Kc Q hr ht ?_
  rintro v av S' G' w' ⟨kk,g,es,rfl,rfl,hw⟩ hle hr' hav
  have hset:(S.set r (o.dst.getD 0) (.arr kk es) g) r (o.dst.getD 0)=some (.arr kk es,g):=by simp[St.set]
  obtain⟨G2,h1,h2,h3⟩:=Wk.freeze (v:=.sl kk r (o.dst.getD 0) g 0 es.length) hset G' w' v hr' hav
  have e1:frz r (o.dst.getD 0) g kk es (.sl kk r (o.dst.getD 0) g 0 es.length) = .list es:=by
    simp only[frz,o6,n6]
    rw[if_pos ⟨trivial,trivial,trivial,trivial,by omega⟩,List.drop_zero,List.take_length]
  have e2:(S.set r (o.dst.getD 0) (.arr kk es) g).del r (o.dst.getD 0)=S:=by
    funext r' k'
    simp only[St.del,St.set]
    by_cases hh:r'=r/\k'=o.dst.getD 0
    · rw[if_pos hh,hh.1,hh.2,hrf _]
    · rw[if_neg hh,if_neg hh]
  rw[e1] at h3
  rw[e2] at h2
  exact hk v _ S G2 w' hK (hle.trans h1) h2 (hw G2 v h3)
end Go.Gg
namespace Go.Gg
theorem si {rg k:Nat} {u:CR} {o:Op} {e e':Operand->AV} (h:∀x∈o.operands,e' x=e x):fpo rg k u o e'=fpo rg k u o e:=by
  cases o with
  | load T x=>simp only[fpo,h x (by simp[Op.operands])]
  | store T a x=>simp only[fpo,h a (by simp[Op.operands])]
  | lookup T x i ok=>simp only[fpo,h x (by simp[Op.operands])]
  | mapUpdate T m i x=>simp only[fpo,h m (by simp[Op.operands])]
  | insert T m i x=>simp only[fpo,h m (by simp[Op.operands])]
  | call c=>
    obtain⟨callee,xs,ts⟩:=c
    cases callee with
    | builtin b=>
      obtain⟨l,rfl⟩:∃l:List Operand,xs=l.toArray:=⟨xs.toList,by simp⟩
      cases b with
      | append=>
        rcases l with _ | ⟨b,_ | ⟨x,_ | ⟨_,_⟩⟩⟩<;>try rfl
        simp only[fpo,h b (by simp[Op.operands,Call.operands]),h x (by simp[Op.operands,Call.operands])]
      | len=>
        rcases l with _ | ⟨x,_ | ⟨_,_⟩⟩<;>try rfl
        simp only[fpo,h x (by simp[Op.operands,Call.operands])]
      | _=>rfl
    | _=>rfl
  | _=>rfl
theorem p9 {rg k:Nat} {u:CR2} {o:Op} {e e':Operand->AV} (h:∀x∈o.operands,e' x=e x):mc rg k u o e'=mc rg k u o e:=by
  have h1:=si (rg:=rg) (k:=k) (u:=jcr) h
  cases o with
  | buildSlice=>rfl
  | call c=>
    obtain⟨callee,xs,ts⟩:=c
    cases callee with
    | value f=>rfl
    | _=>simp only[mc,h1]
  | _=>simp only[mc,h1]
theorem qF {rg k:Nat} {u:CR2} {o:Op} {e e':Operand->AV} (h:∀x∈o.operands,e' x=e x):iq rg k u o e'=iq rg k u o e:=by
  unfold iq
  rw[p9 h]
def vdG (P:Program) (rg:Nat) (us:Nat->CR2) (ops:List Oper) (j:Nat) (o:Oper) (t:Env) (S:St) (C:Env->St->Prop):Prop:=
  match o.guard with
  | none=>vd2 P rg (us j) o.dst o.op (ev t) S (λv S'=>C (bX t o.dst v) S')
  | some (g,want)=>match (ops[g]?).bind (·.dst) with
    | some d=>match t d with
      | .bool b=>if b=want then vd2 P rg (us j) o.dst o.op (ev t) S (λv S'=>C (bX t o.dst v) S') else C (bX t o.dst (.tuple [])) S
      | .tuple []=>C (bX t o.dst (.tuple [])) S
      | _=>False
    | none=>False
def fpG (rg:Nat) (us:Nat->CR2) (ops:List Oper) (j:Nat) (o:Oper) (t:Env):jJ:=
  match o.guard with
  | none=>iq rg (o.dst.getD 0) (us j) o.op (ev t)
  | some (g,want)=>match (ops[g]?).bind (·.dst) with
    | some d=>match t d with
      | .bool b=>if b=want then iq rg (o.dst.getD 0) (us j) o.op (ev t) else ([],[])
      | _=>([],[])
    | none=>([],[])
theorem nD {ops:List Oper} {o:Oper} {t t':Env} (h:∀d∈o.looksAt ops.toArray,t' d=t d):∀x∈o.op.operands,ev t' x=ev t x:=by
  intro x hx
  cases x with
  | tmp i=>exact h i (List.mem_append_left _ (List.mem_filterMap.2 ⟨.tmp i,by simpa using hx,rfl⟩))
  | _=>rfl
theorem l_ {ops:List Oper} {o:Oper} {t t':Env} (h:∀d∈o.looksAt ops.toArray,t' d=t d) {g d:Nat} {want:Bool} (hg:o.guard=some (g,want)) (hd:(ops[g]?).bind (·.dst)=some d):t' d=t d:=
  h d (List.mem_append_right _ (by simp[hg,hd]))
theorem lD {rg:Nat} {us:Nat->CR2} {ops:List Oper} {j:Nat} {o:Oper} {t t':Env} (h:∀d∈o.looksAt ops.toArray,t' d=t d):fpG rg us ops j o t'=fpG rg us ops j o t:=by
  unfold fpG
  rw[qF (nD h)]
  cases hg:o.guard with
  | none=>rfl
  | some gw=>
    obtain⟨g,want⟩:=gw
    simp only[]
    split
    · rename_i d hd;rw[l_ h hg hd]
    · rfl
theorem kE (P:Program) (rg:Nat) (us:Nat->CR2) (ops:List Oper) (j:Nat) (o:Oper) (t:Env) (S:St) :
    ∃(c:Prop) (v:Gen->AV) (ch:Gen->List WE),(c->∀γ,∀x∈ch γ,(x.1,x.2.1)∈(fpG rg us ops j o t).2)/\∀(t':Env) (S':St),(∀d∈o.looksAt ops.toArray,t' d=t d)->
      bj (fpG rg us ops j o t).1 S' S->bj (fpG rg us ops j o t).2 S' S->∀C,vdG P rg us ops j o t' S' C↔c/\∀γ,C (bX t' o.dst (v γ)) (dr (ch γ) S'):=by
  obtain⟨c,v,ch,h1,h2⟩:=v7 P rg (us j) o.dst o.op (ev t) S
  unfold fpG vdG
  cases hg:o.guard with
  | none=>exact⟨c,v,ch,h1,λt' S' ht hS hS2 C=>h2 (ev t') S' (nD ht) hS hS2 _⟩
  | some gw=>
    obtain⟨g,want⟩:=gw
    simp only[]
    cases hd:(ops[g]?).bind (·.dst) with
    | none=>exact⟨False,v,λ_=>[],λh=>h.elim,λ_ _ _ _ _=>by simp⟩
    | some d=>
      simp only[]
      have hgd:∀t':Env,(∀d∈o.looksAt ops.toArray,t' d=t d)->t' d=t d:=λt' ht=>l_ ht hg hd
      cases htd:t d with
      | bool b=>
        by_cases hb:b=want
        · refine⟨c,v,ch,by simp only[if_pos hb];exact h1,λt' S' ht hS hS2 C=>?_⟩
          simp only[if_pos hb] at hS hS2
          simp only[hgd t' ht,htd,if_pos hb]
          exact h2 (ev t') S' (nD ht) hS hS2 _
        · refine⟨True,λ_=>.tuple [],λ_=>[],λ_ γ x hx=>by simp at hx,λt' S' ht hS _ C=>?_⟩
          simp only[hgd t' ht,htd,if_neg hb,dr,true_and,forall_const]
      | tuple vs=>
        cases vs with
        | nil=>exact⟨True,λ_=>.tuple [],λ_=>[],λ_ γ x hx=>by simp at hx,λt' S' ht hS _ C=>by simp only[hgd t' ht,htd,dr,true_and,forall_const]⟩
        | cons=>exact⟨False,v,λ_=>[],λh=>h.elim,λt' S' ht _ _ C=>by simp only[hgd t' ht,htd,false_and]⟩
      | _=>exact⟨False,v,λ_=>[],λh=>h.elim,λt' S' ht _ _ C=>by simp only[hgd t' ht,htd,false_and]⟩
theorem ko {P:Program} {rg:Nat} {us:Nat->CR2} {ops:List Oper} {j:Nat} {o:Oper} {t:Env} {S:St} {C C':Env->St->Prop} (h:vdG P rg us ops j o t S C) (hC:∀t S,C t S->C' t S):vdG P rg us ops j o t S C':=by
  obtain⟨c,v,ch,_,h2⟩:=kE P rg us ops j o t S
  have h3:=h2 t S (λ_ _=>rfl) (bj.refl _ S) (bj.refl _ S)
  exact(h3 C').2 ⟨((h3 C).1 h).1,λg=>hC _ _ (((h3 C).1 h).2 g)⟩
def ni (ops:List Oper) (i j:Nat):Bool:=((Region.before ops.toArray).getD j 0).testBit i
def a9 (a b:jJ):Prop:=(∀x∈a.2,x∉b.1/\x∉b.2)/\∀y∈b.2,y∉a.1
abbrev Log:=List (Nat×jJ)
def cf (ops:List Oper) (pend:Log) (j:Nat) (E:jJ):Prop:=∀p∈pend,ni ops p.1 j=true\/a9 p.2 E
def rv (ops:List Oper) (M:Array Nat) (j:Nat):Bool:=
  match ops[j]? with
  | none=>true
  | some o=>(o.after.all λe=>!Region.binds .any e || decide (e.on<j)) &&
      (List.range ops.length).all λi=>(!(M.getD j 0).testBit i || o.after.any λe=>Region.binds .any e && (e.on == i || (M.getD e.on 0).testBit i)) &&
        (i == j || (M.getD j 0).testBit i || (M.getD i 0).testBit j || match ops[i]? with | some oi=>oi.apart ops.toArray o | none=>true)
def fk (n:Nat) (ops:List Oper):Bool:=
  (ops.all λo=>match o.dst with | some d=>decide (d<n) | none=>true) && (List.range ops.length).all (rv ops (Region.before ops.toArray))
theorem qJ {n:Nat} {ops:List Oper} (h:fk n ops=true) {o:Oper} (ho:o∈ops) {d:Nat} (hd:o.dst=some d):d<n:=by
  simp only[fk,Bool.and_eq_true,List.all_eq_true] at h
  have:=h.1 o ho
  simpa[hd] using this
theorem ir {n:Nat} {ops:List Oper} (h:fk n ops=true) {j:Nat} {o:Oper} (ho:ops[j]? = some o) :
    (∀e∈o.after,Region.binds .any e=true->e.on<j)/\∀i,i<ops.length->(ni ops i j=true->∃e∈o.after,Region.binds .any e=true/\(e.on=i\/ni ops i e.on=true))/\
      (i=j\/ni ops i j=true\/ni ops j i=true\/∀oi,ops[i]? = some oi->oi.apart ops.toArray o=true):=by
  simp only[fk,Bool.and_eq_true,List.all_eq_true,List.mem_range] at h
  have hj:j<ops.length:=(List.getElem?_eq_some_iff.1 ho).1
  have h1:=h.2 j hj
  simp only[rv,ho,Bool.and_eq_true,Array.all_eq_true_iff_forall_mem,List.all_eq_true,List.mem_range,Bool.or_eq_true,Bool.not_eq_true',decide_eq_true_eq] at h1
  refine⟨λe he hb=>(h1.1 e he).resolve_left (by simp[hb]),λi hi=>?_⟩
  obtain⟨h2,h3⟩:=h1.2 i hi
  refine⟨λhij=>?_,?_⟩
  · have hij':((Region.before ops.toArray).getD j 0).testBit i=true:=hij
    have:=h2.resolve_left (λhf=>by rw[hij'] at hf;cases hf)
    obtain⟨e,he,hb⟩:=Array.any_eq_true'.1 this
    simp only[Bool.and_eq_true,Bool.or_eq_true,beq_iff_eq] at hb
    exact⟨e,he,hb.1,hb.2⟩
  · rcases h3 with((h3 | h3) | h3) | h3
    · exact .inl (by simpa using h3)
    · exact .inr (.inl h3)
    · exact .inr (.inr (.inl h3))
    · refine .inr (.inr (.inr λoi hoi=>?_))
      rw[hoi] at h3
      exact h3
def DC (ops:List Oper) (listed:Array Bool):Prop:=∀j,listed.getD j false=true->∀i,i<ops.length->ni ops i j=true->listed.getD i false=true
theorem h_ {listed:Array Bool} {i:Nat} (h:listed.getD i true=false):listed.getD i false=false:=by
  rcases Nat.lt_or_ge i listed.size with h' | h'
  · simp[h'] at h ⊢;exact h
  · simp[Array.getElem?_eq_none h'] at h
theorem m5 {n:Nat} {ops:List Oper} (hok:fk n ops=true) {listed:Array Bool} (hdc:DC ops listed) {j:Nat} (hj:j∈Region.ready .any ops.toArray listed):∀i,i<ops.length->ni ops i j=true->listed.getD i false=true:=by
  obtain⟨h0,o,ho,hall⟩:=mem_ready.1 hj
  intro i hi hij
  have ho':ops[j]? = some o:=by simpa using ho
  obtain⟨e,he,hb,h⟩:=((ir hok ho').2 i hi).1 hij
  rcases h with h | h
  · subst h;exact hall e he hb
  · exact hdc e.on (hall e he hb) i hi h
theorem wh {n:Nat} {ops:List Oper} (hok:fk n ops=true) {listed:Array Bool} (hdc:DC ops listed) {j:Nat} (hj:j∈Region.ready .any ops.toArray listed):DC ops (listed.setIfInBounds j true):=by
  intro k hk i hi hik
  by_cases hkj:j=k
  · subst hkj;exact getD_set_true (m5 hok hdc hj i hi hik)
  · rw[getD_set_ne false hkj] at hk
    exact getD_set_true (hdc k hk i hi hik)
def AD (P:Program) (rg:Nat) (us:Nat->CR2) (ops:List Oper) (K:Env->St->Prop) (pend:Log):Nat->Array Bool->Env->St->Prop
  | 0,listed,t,S=>Region.ready .any ops.toArray listed=[]/\K t S
  | fuel+1,listed,t,S=>(Region.ready .any ops.toArray listed=[]->K t S)/\∀j o,ops[j]? = some o->j∈Region.ready .any ops.toArray listed->
      cf ops pend j (fpG rg us ops j o t)/\vdG P rg us ops j o t S (λt' S'=>AD P rg us ops K pend fuel (listed.setIfInBounds j true) t' S')
section
variable {P:Program} {rg:Nat} {us:Nat->CR2} {ops:List Oper} {K:Env->St->Prop}
theorem pi {p:Nat×jJ} {pend:Log}:∀(fuel:Nat) (listed:Array Bool) (t:Env) (S:St),AD P rg us ops K (p :: pend) fuel listed t S->AD P rg us ops K pend fuel listed t S
  | 0,_,_,_,h=>h
  | fuel+1,_,_,_,h=>⟨h.1,λj o ho hj=>⟨λq hq=>(h.2 j o ho hj).1 q (List.mem_cons_of_mem _ hq),ko (h.2 j o ho hj).2 (λt S=>pi fuel _ t S)⟩⟩
theorem qU {t:Env} {d:Option Nat} {v:AV} {s:Nat} (h:∀e,d=some e->s≠e):bX t d v s=t s:=by
  cases d with
  | none=>rfl
  | some e=>simp only[bX,upd,if_neg (h e rfl)]
theorem rC {t:Env} {d e:Option Nat} {v u:AV} (h:∀x,d=some x->e≠some x):bX (bX t d v) e u=bX (bX t e u) d v:=by
  cases d with
  | none=>cases e<;>rfl
  | some d=>
    cases e with
    | none=>rfl
    | some e=>
      have hne:d≠e:=λhe=>h d rfl (by rw[he])
      funext k
      simp only[bX,upd]
      by_cases h1:k=e
      · subst h1;rw[if_pos rfl,if_neg (λh=>hne h.symm),if_pos rfl]
      · rw[if_neg h1,if_neg h1]
theorem t7 {n:Nat} (hok:fk n ops=true) {i:Nat} {oi:Oper} (hoi:ops[i]? = some oi) {E:jJ}:∀(fuel:Nat) (pend:Log) (listed:Array Bool) (t:Env) (S:St),DC ops listed->i∈Region.ready .any ops.toArray listed->
    E=fpG rg us ops i oi t->cf ops pend i E->vdG P rg us ops i oi t S (λt' S'=>AD P rg us ops K ((i,E) :: pend) fuel (listed.setIfInBounds i true) t' S')->AD P rg us ops K pend (fuel+1) listed t S:=by
  intro fuel
  induction fuel with
  | zero=>
    intro pend listed t S hdc hi hE hcf H
    refine⟨λh=>(by rw[h] at hi;cases hi),λj oj hoj hj=>?_⟩
    by_cases hji:j=i
    · subst hji
      obtain rfl:oi=oj:=by rw[hoi] at hoj;exact Option.some.inj hoj
      exact⟨hE▸hcf,ko H (λt S=>pi _ _ t S)⟩
    · have:=ready_mono hj hji
      obtain⟨c,v,ch,_,h2⟩:=kE P rg us ops i oi t S
      have h3:=((h2 t S (λ_ _=>rfl) (bj.refl _ S) (bj.refl _ S) _).1 H).2 (λ_=>0)
      rw[h3.1] at this
      cases this
  | succ fuel ih=>
    intro pend listed t S hdc hi hE hcf H
    refine⟨λh=>(by rw[h] at hi;cases hi),λj oj hoj hj=>?_⟩
    by_cases hji:j=i
    · subst hji
      obtain rfl:oi=oj:=by rw[hoi] at hoj;exact Option.some.inj hoj
      exact⟨hE▸hcf,ko H (λt S=>pi _ _ t S)⟩
    · have hin:i<ops.length:=(List.getElem?_eq_some_iff.1 hoi).1
      have hjn:j<ops.length:=(List.getElem?_eq_some_iff.1 hoj).1
      have hiu:=h_ (mem_ready.1 hi).1
      have hju:=h_ (mem_ready.1 hj).1
      have hij:¬ni ops i j=true:=λh=>by have:=m5 hok hdc hj i hin h;rw[hiu] at this;cases this
      have hjiO:¬ni ops j i=true:=λh=>by have:=m5 hok hdc hi j hjn h;rw[hju] at this;cases this
      have hap:oi.apart ops.toArray oj=true:=by
        rcases ((ir hok hoj).2 i hin).2 with h | h | h | h
        · exact absurd h.symm hji
        · exact absurd h hij
        · exact absurd h hjiO
        · exact h oi hoi
      obtain⟨ap1,ap2,ap3⟩:=Oper.apart_spec hap
      obtain⟨ci,vi,ei,ki,hi2⟩:=kE P rg us ops i oi t S
      obtain⟨cj,vj,ej,kj,hj2⟩:=kE P rg us ops j oj t S
      have Hi:=(hi2 t S (λ_ _=>rfl) (bj.refl _ S) (bj.refl _ S) _).1 H
      have ti:∀v,∀d∈oj.looksAt ops.toArray,bX t oi.dst v d=t d:=λv d hd=>qU (λe he hde=>ap1 e he (hde▸hd))
      have tj:∀v,∀d∈oi.looksAt ops.toArray,bX t oj.dst v d=t d:=λv d hd=>qU (λe he hde=>ap3 e he (hde▸hd))
      have hAE:a9 E (fpG rg us ops j oj t):=by
        have h1:=((Hi.2 (λ_=>0)).2 j oj hoj (ready_mono hj hji)).1 (i,E) (by simp)
        rw[lD (ti (vi (λ_=>0)))] at h1
        exact h1.resolve_left hij
      rw[<-hE] at ki hi2
      have ki:=ki Hi.1
      have hcj:cf ops pend j (fpG rg us ops j oj t):=λp hp=>by
        have h1:=((Hi.2 (λ_=>0)).2 j oj hoj (ready_mono hj hji)).1 p (List.mem_cons_of_mem _ hp)
        rwa[lD (ti (vi (λ_=>0)))] at h1
      have Hj:∀g,cj/\∀h,AD P rg us ops K ((i,E) :: pend) fuel ((listed.setIfInBounds i true).setIfInBounds j true) (bX (bX t oi.dst (vi g)) oj.dst (vj h)) (dr (ej h) (dr (ei g) S)):=λg=>
        (hj2 _ _ (ti (vi g)) (gM λx hx=>(hAE.1 _ (ki g x hx)).1) (gM λx hx=>(hAE.1 _ (ki g x hx)).2) _).1 ((Hi.2 g).2 j oj hoj (ready_mono hj hji)).2
      have kj:=kj (Hj (λ_=>0)).1
      refine⟨hcj,(hj2 t S (λ_ _=>rfl) (bj.refl _ S) (bj.refl _ S) _).2 ⟨(Hj (λ_=>0)).1,λh=>?_⟩⟩
      refine ih pend (listed.setIfInBounds j true) _ _ (wh hok hdc hj) (ready_mono hi (Ne.symm hji)) (hE.trans (lD (tj (vj h))).symm) hcf ?_
      refine(hi2 _ _ (tj (vj h)) (gM λx hx=>hAE.2 _ (kj h x hx)) (gM λx hx hE2=>(hAE.1 _ hE2).2 (kj h x hx)) _).2 ⟨Hi.1,λg=>?_⟩
      have:=(Hj g).2 h
      rw[Array.setIfInBounds_comm _ _ (Ne.symm hji),rC ap2,oC (λx hx y hy hc=>(hAE.1 _ (ki g x hx)).2 (by rw[hc.1,hc.2];exact kj h y hy))] at this
      exact this
end
end Go.Gg
namespace Go.Gg
def lg (j:Nat) (E:jJ) (log:Log):Log:=match E with | ([],[])=>log | E=>(j,E) :: log
def vdT (P:Program) (rg:Nat) (us:Nat->CR2) (ops:List Oper):List Oper->Nat->Log->Env->St->(Env->St->Prop)->Prop
  | [],_,_,t,S,K=>K t S
  | o :: rest,j,log,t,S,K=>match o.guard with
    | none=>cf ops log j (iq rg (o.dst.getD 0) (us j) o.op (ev t))/\vd2 P rg (us j) o.dst o.op (ev t) S (λv S'=>vdT P rg us ops rest (j+1) (lg j (iq rg (o.dst.getD 0) (us j) o.op (ev t)) log) (bX t o.dst v) S' K)
    | some (g,want)=>match (ops[g]?).bind (·.dst) with
      | some d=>match t d with
        | .bool b=>(b=want->cf ops log j (iq rg (o.dst.getD 0) (us j) o.op (ev (upd t d (.bool want))))/\vd2 P rg (us j) o.dst o.op (ev (upd t d (.bool want))) S
              (λv S'=>vdT P rg us ops rest (j+1) (lg j (iq rg (o.dst.getD 0) (us j) o.op (ev (upd t d (.bool want)))) log) (bX (upd t d (.bool want)) o.dst v) S' K))/\
            (b = !want->vdT P rg us ops rest (j+1) log (bX (upd t d (.bool !want)) o.dst (.tuple [])) S K)
        | .tuple []=>vdT P rg us ops rest (j+1) log (bX t o.dst (.tuple [])) S K
        | _=>False
      | none=>False
section
variable {P:Program} {rg:Nat} {us:Nat->CR2} {ops:List Oper} {K:Env->St->Prop}
theorem js {log:Log} {j:Nat}:cf ops log j ([],[]):=λp _=>.inr (by
  obtain⟨i,r,w⟩:=p
  simp[a9])
theorem sF {o:Oper} {rest:List Oper} {j:Nat} {log:Log} {t:Env} {S:St} (h:vdT P rg us ops (o :: rest) j log t S K) :
    cf ops log j (fpG rg us ops j o t)/\vdG P rg us ops j o t S (λt' S'=>vdT P rg us ops rest (j+1) (lg j (fpG rg us ops j o t) log) t' S' K):=by
  unfold vdT at h
  unfold fpG vdG
  cases hg:o.guard with
  | none=>simp only[hg] at h;exact h
  | some gw=>
    obtain⟨g,want⟩:=gw
    simp only[hg] at h
    simp only[]
    cases hd:(ops[g]?).bind (·.dst) with
    | none=>simp only[hd] at h
    | some d=>
      simp only[hd] at h
      simp only[]
      cases hb:t d with
      | bool b=>
        simp only[hb] at h
        simp only[]
        by_cases hw:b=want
        · have e:upd t d (.bool want)=t:=pp (by rw[hb,hw])
          have:=h.1 hw
          rw[e] at this
          simp only[if_pos hw]
          exact this
        · have hbn:b = !want:=by cases b<;>cases want<;>simp_all
          have e:upd t d (.bool !want)=t:=pp (by rw[hb,hbn])
          have:=h.2 hbn
          rw[e] at this
          simp only[if_neg hw]
          exact⟨js,this⟩
      | tuple vs=>
        cases vs with
        | nil=>simp only[hb] at h;exact⟨js,h⟩
        | cons=>simp only[hb] at h
      | _=>simp only[hb] at h
theorem vU {n:Nat} (hok:fk n ops=true) {i:Nat} (hi:i<ops.length):∀j,j<ops.length->ni ops i j=true->i<j:=by
  intro j
  induction j using Nat.strongRecOn with
  | _ j ih=>
    intro hj hij
    have hoj:ops[j]? = some ops[j]:=List.getElem?_eq_getElem hj
    obtain⟨e,he,hb,h⟩:=((ir hok hoj).2 i hi).1 hij
    have hlt:=(ir hok hoj).1 e he hb
    rcases h with rfl | h
    · exact hlt
    · exact Nat.lt_trans (ih e.on hlt om h) hlt
theorem vI {n:Nat} (hok:fk n ops=true):∀(rest:List Oper) (j:Nat) (log L:Log) (t:Env) (S:St) (listed:Array Bool),ops.drop j=rest->j<=ops.length->listed.size=ops.length->(∀i,listed.getD i false=true↔i<j)->
    (∀p∈L,p∈log\/p.2=([],[]))->vdT P rg us ops rest j log t S K->AD P rg us ops K L rest.length listed t S:=by
  intro rest
  induction rest with
  | nil=>
    intro j log L t S listed hrest hj hsz hl hL h
    have hjl:ops.length<=j:=by simpa using hrest
    refine⟨?_,h⟩
    cases hr:Region.ready .any ops.toArray listed with
    | nil=>rfl
    | cons k ks=>
      have hk:k∈Region.ready .any ops.toArray listed:=by rw[hr];simp
      obtain⟨h0,o,ho,_⟩:=mem_ready.1 hk
      have hkl:k<ops.length:=by have:=(Array.getElem?_eq_some_iff.1 ho).1;simpa using this
      have:=(hl k).2 om
      rw[h_ h0] at this
      cases this
  | cons o rest ih=>
    intro j log L t S listed hrest hj hsz hl hL h
    have hjl:j<ops.length:=by
      rcases Nat.lt_or_ge j ops.length with h | h
      · exact h
      · rw[List.drop_eq_nil_of_le h] at hrest;cases hrest
    have hoj:ops[j]? = some o:=by
      have h0:(ops.drop j)[0]? = (o :: rest)[0]?:=by rw[hrest]
      simpa using h0
    obtain⟨h1,h2⟩:=sF h
    have hdc:DC ops listed:=λa ha i hi hia=>(hl i).2 (by
      have hal:=(hl a).1 ha
      have:=vU hok hi a om hia
      omega)
    have hready:j∈Region.ready .any ops.toArray listed:=mem_ready.2 ⟨by
      have:¬listed.getD j false=true:=λhc=>by have:=(hl j).1 hc;omega
      have hsj:j<listed.size:=om
      simp[hsj] at this ⊢
      exact this,o,by simpa using hoj,λe he hb=>(hl e.on).2 ((ir hok hoj).1 e he hb)⟩
    refine t7 hok hoj rest.length L listed t S hdc hready rfl ?_ (ko h2 λt' S' h'=>?_)
    · intro p hp
      rcases hL p hp with hp | hp
      · exact h1 p hp
      · refine .inr ?_
        rw[hp]
        generalize fpG rg us ops j o t=E
        obtain⟨r,w⟩:=E
        simp[a9]
    · refine ih (j+1) _ _ t' S' _ ?_ om (by simpa using hsz) ?_ ?_ h'
      · rw[List.drop_eq_getElem_cons hjl] at hrest
        exact(List.cons.inj hrest).2
      · intro i
        by_cases hij:j=i
        · subst hij
          simp[show j<listed.size by omega]
        · rw[getD_set_ne false hij,hl i];omega
      · intro p hp
        rcases List.mem_cons.1 hp with rfl | hp
        · generalize fpG rg us ops j o t=E
          obtain⟨r,w⟩:=E
          cases r with
          | nil=>
            cases w with
            | nil=>exact .inr rfl
            | cons w ws=>exact .inl (by simp[lg])
          | cons a r=>exact .inl (by simp[lg])
        · rcases hL p hp with hp | hp
          · refine .inl ?_
            unfold lg
            split
            · exact hp
            · exact List.mem_cons_of_mem _ hp
          · exact .inr hp
theorem qS {n:Nat} {u:CR2} {o:Oper} {t:Env} {S:St} {C:AV->St->Prop} (h:nN P rg u o.dst o.op (ev t) S C):SOp P n o t S C:=by
  obtain⟨dst,op,ty,pos,after,guard⟩:=o
  cases op with
  | call c=>
    obtain⟨callee,xs,ts⟩:=c
    cases callee with
    | value f=>
      refine gh (rg:=rg) ?_
      show(match ev t f with | .fn (.func g) fs caps=>Ctr P g (fs++(xs.toList.map (ev t)++caps)) S C | _=>False)
      simp only[nN] at h
      generalize ev t f=ef at h ⊢
      by_cases hq:∃g fs caps,ef = .fn (.func g) fs caps
      · obtain⟨g,fs,caps,rfl⟩:=hq
        obtain⟨⟨_,h1⟩,h2⟩:=h
        refine Ctr.mono (h1 S (bj.refl _ S) (bj.refl _ S)) ?_
        rintro v S' ⟨γ,rfl,rfl⟩
        exact h2 γ
      · exfalso
        split at h
        · exact hq ⟨_,_,_,rfl⟩
        · exact h
    | invoke r m=>exact gh (rg:=rg) h
    | builtin b=>exact gh (rg:=rg) h
  | buildSlice T len parts=>
    obtain⟨uv,rd,wk,wr,pl⟩:=u
    cases pl
    · exact gh (rg:=rg) h
    · exact nP rfl h
  | _=>exact gh (rg:=rg) h
def fH:CR2:=⟨λ_=>.junk,[],[],λ_=>[],false⟩
theorem vH {n:Nat} {u:CR2} {o:Oper} {t:Env} {S:St} {C:AV->St->Prop} (h:vd2 P rg u o.dst o.op (ev t) S C):SOp P n o t S C:=by
  unfold vd2 at h
  cases hp:pK u o.op with
  | false=>rw[hp] at h;exact qS (rg:=rg) h
  | true=>
    rw[hp] at h
    refine vK (λr K hk=>?_) h
    have:nN P r fH o.dst o.op (ev t) S K=vd P r jcr o.dst o.op (ev t) S K:=by
      cases ho:o.op with
      | call c=>
        obtain⟨callee,xs,ts⟩:=c
        cases callee with
        | value f=>rw[ho] at hp;cases hp
        | _=>rfl
      | buildSlice=>rw[ho] at hp;cases hp
      | _=>rfl
    exact qS (rg:=r) (u:=fH) (this▸hk)
theorem t6 {n:Nat} (hok:fk n ops=true) {Q:Exit->Act->World->Prop}:∀(fuel:Nat) (L:Log) (listed:Array Bool) (t:Env) (S:St) (G:Ghost) (a:Act) (w:World),AD P rg us ops K L fuel listed t S->Rel G S w->TR n G t a->(∀a w,lift n G K a w->Q .normal a w)->
    ∀ro,wpAnyIn (fen ro) 0 P .any ops.toArray Q fuel listed a w:=by
  intro fuel
  induction fuel with
  | zero=>intro L listed t S G a w h hr ht hQ ro;exact⟨h.1,hQ a w ⟨t,S,G,h.2,Ghost.le.refl G,hr,ht⟩⟩
  | succ fuel ih=>
    intro L listed t S G a w h hr ht hQ ro
    refine⟨λhn=>hQ a w ⟨t,S,G,h.1 hn,Ghost.le.refl G,hr,ht⟩,λj hj=>?_⟩
    obtain⟨_,o,ho,_⟩:=mem_ready.1 hj
    have hoj:ops[j]? = some o:=by simpa using ho
    have hdo:∀d,o.dst=some d->d<n:=λd hd=>qJ hok (List.mem_of_getElem? hoj) hd
    obtain⟨_,h2⟩:=h.2 j o hoj hj
    unfold wpOpIn
    simp only[ho]
    have step:vd2 P rg (us j) o.dst o.op (ev t) S (λv S'=>AD P rg us ops K L fuel (listed.setIfInBounds j true) (bX t o.dst v) S')->o.wpIn (fen ro) 0 P a w (wpAnyIn (fen ro) 0 P .any ops.toArray Q fuel (listed.setIfInBounds j true)) Q:=λhv=>
      vH hv ro G a w _ Q hr ht (λv av S' G' w' hk hle hr' hav=>ih _ _ _ S' G' _ w' hk hr' ((ht.mono hle).put hdo hav) (λa w hl=>hQ a w (lift_mono hl hle)) ro)
    unfold vdG at h2
    cases hg:o.guard with
    | none=>
      simp only[hg] at h2
      rw[if_pos (by simp[Region.wanted,hg])]
      exact step h2
    | some gw=>
      obtain⟨g,want⟩:=gw
      simp only[hg] at h2
      cases hd:(ops[g]?).bind (·.dst) with
      | none=>simp only[hd] at h2
      | some d=>
        simp only[hd] at h2
        cases hb:t d with
        | bool b=>
          simp only[hb] at h2
          have hy:=sw ht hd hb
          have hw:Region.wanted o (yielded ops.toArray a.tmps)=(b == want):=by simp only[Region.wanted,hg,hy];cases b<;>cases want<;>rfl
          by_cases hbw:b=want
          · rw[if_pos (by rw[hw];simp[hbw])]
            rw[if_pos hbw] at h2
            exact step h2
          · rw[if_neg (by rw[hw];simp[hbw])]
            rw[if_neg hbw] at h2
            exact⟨λ_ _=>trivial,ih _ _ _ S G _ w h2 hr (ht.put hdo (VR.undef G)) hQ ro⟩
        | tuple vs=>
          cases vs with
          | nil=>
            simp only[hb] at h2
            have hy:=t9 ht hd hb
            rw[if_neg (by simp[Region.wanted,hg,hy])]
            exact⟨λ_ _=>trivial,ih _ _ _ S G _ w h2 hr (ht.put hdo (VR.undef G)) hQ ro⟩
          | cons=>simp only[hb] at h2
        | _=>simp only[hb] at h2
theorem vG {n:Nat} {t:Env} {S:St} (rg:Nat) (us:Nat->CR2) (hok:fk n ops=true) (h:vdT P rg us ops ops 0 [] t S K):vdr P n ops.toArray K t S:=by
  intro ro G a w Q hr ht hQ
  have h1:=vI hok ops 0 [] [] t S (Array.replicate ops.length false) rfl (Nat.zero_le _) (by simp) (by intro i;simp[Array.getElem?_replicate];split<;>simp) (λp hp=>by simp at hp) h
  have h2:=t6 hok ops.length [] _ t S G a w h1 hr ht hQ ro
  simpa using h2
def pc (v:AV):CR2:=⟨λ_=>v,[],[],λ_=>[],false⟩
def plc:CR2:=⟨λ_=>.junk,[],[],λ_=>[],true⟩
def gV:List (Nat×CR2)->Nat->CR2
  | [],_=>fH
  | (i,u) :: rest,j=>if j=i then u else gV rest j
variable {d:Option Nat} {t:Env} {S:St} {C:AV->St->Prop} {ty:TypeId} {pos:String} {after:Array Edge} {rest:List Oper} {j:Nat} {log:Log} {u:CR2}
def qC (u:CR2) (o:Op):Bool:=pK u o || match o with | .call { callee:=.value _,.. }=>true | .buildSlice ..=>u.pl | _=>false
def tav (v:Gen->AV) (rd:List Key) (q:Key) (wk:List Key) (wr:Gen->List WE):CR2:=⟨v,rd,q :: wk,wr,true⟩
theorem sC {op:Op} (h:qC u op=false):vd2 P rg u d op (ev t) S C=vo P rg d op t S C:=by
  unfold qC at h
  rw[Bool.or_eq_false_iff] at h
  obtain⟨hp,h⟩:=h
  unfold vd2
  rw[hp]
  show nN P rg u d op (ev t) S C=_
  cases op with
  | call c=>
    obtain⟨callee,xs,ts⟩:=c
    cases callee with
    | value f=>cases h
    | _=>rfl
  | buildSlice T len parts=>
    obtain⟨uv,rd,wk,wr,pl⟩:=u
    cases pl
    · rfl
    · cases h
  | _=>rfl
theorem oF {op:Op}:vdT P rg us ops (⟨d,op,ty,pos,after,none⟩ :: rest) j log t S K=(cf ops log j (iq rg (d.getD 0) (us j) op (ev t))/\vd2 P rg (us j) d op (ev t) S (λv S'=>vdT P rg us ops rest (j+1) (lg j (iq rg (d.getD 0) (us j) op (ev t)) log) (bX t d v) S' K)):=rfl
theorem sD {op:Op} (h:iq rg (d.getD 0) (us j) op (ev t)=([],[])) (h':qC (us j) op=false) :
    vdT P rg us ops (⟨d,op,ty,pos,after,none⟩ :: rest) j log t S K=vo P rg d op t S (λv S'=>vdT P rg us ops rest (j+1) log (bX t d v) S' K):=by
  rw[oF,h,sC h']
  simp only[lg]
  exact propext ⟨λh=>h.2,λh=>⟨js,h⟩⟩
theorem vu {E:jJ} (hE:E≠([],[])):lg j E log=(j,E) :: log:=by
  unfold lg
  split
  · exact absurd rfl hE
  · rfl
theorem sE {op:Op} {E:jJ} (h:iq rg (d.getD 0) (us j) op (ev t)=E) (h':qC (us j) op=false) (hE:E≠([],[])) :
    vdT P rg us ops (⟨d,op,ty,pos,after,none⟩ :: rest) j log t S K=(cf ops log j E/\vo P rg d op t S (λv S'=>vdT P rg us ops rest (j+1) ((j,E) :: log) (bX t d v) S' K)):=by
  rw[oF,h,sC h',vu hE]
theorem sG {f:Operand} {xs:List Operand} {ts:Array TypeId}:vdT P rg us ops (⟨d,.call { callee:=.value f,args:=xs.toArray,argTypes:=ts },ty,pos,after,none⟩ :: rest) j log t S K =
    (cf ops log j ((us j).rd,(us j).wk)/\(match ev t f with
      | .fn (.func g) fs caps=>((∀γ,∀x∈(us j).wr γ,(x.1,x.2.1)∈(us j).wk)/\∀S',bj (us j).rd S' S->bj (us j).wk S' S->Ctr P g (fs++(xs.map (ev t)++caps)) S' (λv S''=>∃γ,v=(us j).v γ/\S''=dr ((us j).wr γ) S'))/\
          ∀γ,vdT P rg us ops rest (j+1) (lg j ((us j).rd,(us j).wk) log) (bX t d ((us j).v γ)) (dr ((us j).wr γ) S) K
      | _=>False)):=rfl
theorem pm {op:Op} {g:Nat} {want:Bool}:vdT P rg us ops (⟨d,op,ty,pos,after,some (g,want)⟩ :: rest) j log t S K=(match (ops[g]?).bind (·.dst) with
      | some s=>match t s with
        | .bool b=>(b=want->vdT P rg us ops (⟨d,op,ty,pos,after,none⟩ :: rest) j log (upd t s (.bool want)) S K)/\
            (b = !want->vdT P rg us ops rest (j+1) log (bX (upd t s (.bool !want)) d (.tuple [])) S K)
        | .tuple []=>vdT P rg us ops rest (j+1) log (bX t d (.tuple [])) S K
        | _=>False
      | none=>False):=rfl
end
end Go.Gg
