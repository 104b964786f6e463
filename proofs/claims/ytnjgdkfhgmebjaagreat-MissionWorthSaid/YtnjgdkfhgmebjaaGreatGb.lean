/- An own logic over the kit's weakest preconditions, part K: one operation of any kind, lists of operations, code; soundness. Conditions: none. -/
import Derived.Test.YtnjgdkfhgmebjaaGreatGa
import Derived.KernelRfl
namespace Go.Gg
open Go.RowKit (Below)
def qU (P:Program) (f:FuncId):Bool:=match P.funcs[f]? with
  | some fn => !(fn.name == "runtime.NumGoroutine") && fn.body.isSome
  | none=>false
def Ctr (P:Program) (f:FuncId) (as:List AV) (S:St) (R:AV->St->Prop):Prop:=qU P f=true/\xa P f as S R
theorem Ctr.mono {P:Program} {f:FuncId} {as:List AV} {S:St} {R R':AV->St->Prop} (h:Ctr P f as S R) (hr:∀v S,R v S->R' v S):Ctr P f as S R':=⟨h.1,h.2.mono hr⟩
def D8:Op->Bool
  | .alloc _ | .box .. | .store .. | .makeSlice .. | .buildSlice .. | .makeMap .. | .mapUpdate .. | .insert ..=>true
  | .call { callee:=.builtin .append,.. }=>true
  | .call { callee:=.value _,.. }=>true
  | _=>false
def vl (P:Program) (rg:Nat) (k:Nat) (o:Op) (e:Operand->AV) (S:St) (K:AV->St->Prop):Prop:=
  match o with
  | .alloc T=>cX P T=true/\∀g,K (.ptr rg k g 0 0) (S.set rg k (.arr (zav P T).cells.length [zav P T]) g)
  | .box _ x=>((e x).solid=true/\0<(e x).cells.length)/\∀g,K (.ptr rg k g 0 0) (S.set rg k (.arr (e x).cells.length [e x]) g)
  | .store T a x=>iH P T (e a) (e x) S K
  | .makeSlice T l c=>pZ P rg k T (e l) (e c) S K
  | .buildSlice T len parts=>d7 P rg k T len (parts.toList.map (·.1)) (parts.toList.map λp=>e p.2) S K
  | .makeMap T r=>kI P rg k T (r.map e) S K
  | .mapUpdate T m i x=>eE P T (e m) (e i) (e x) S K
  | .insert T m i x=>eE P T (e m) (e i) (e x) S K
  | .call { callee:=.builtin .append,args:=xs,argTypes:=ts }=>match xs.toList,ts.toList with
    | [b,x],[T,T']=>T=T'/\dX P rg k T (e b) (e x) S K
    | _,_=>False
  | .call { callee:=.value f,args:=xs,argTypes:=_ }=>match e f with
    | .fn (.func g) fs caps=>Ctr P g (fs++(xs.toList.map e++caps)) S K
    | _=>False
  | _=>False
theorem BB {P:Program} {n rg k:Nat} {o:Oper} {t:Env} {S:St} {K:AV->St->Prop} (h:vl P rg k o.op (ev t) S K):SOp P n o t S K:=by
  cases ho:o.op with
  | alloc T=>rw [ho] at h;exact AQ ho rg k h.1 h.2
  | box T x=>rw [ho] at h;exact DA ho rg k h.1.1 h.1.2 h.2
  | store T a x=>rw [ho] at h;exact AP ho h
  | makeSlice T l c=>rw [ho] at h;exact B3 ho rg k h
  | buildSlice T len parts=>rw [ho] at h;exact nP ho rg k h
  | makeMap T r=>rw [ho] at h;exact xz ho rg k h
  | mapUpdate T m i x=>rw [ho] at h;exact tB (.inl ho) h
  | insert T m i x=>rw [ho] at h;exact tB (.inr ho) h
  | call c=>
    rw [ho] at h
    obtain ⟨callee,xs,ts⟩:=c
    cases callee with
    | invoke r m=>exact h.elim
    | builtin b=>
      cases b<;>first | exact h.elim | skip
      simp only [vl] at h
      split at h
      · rename_i b x T T' hx ht
        obtain rfl:xs = #[b,x]:=by cases xs;simp_all
        obtain rfl:ts = #[T,T']:=by cases ts;simp_all
        obtain ⟨rfl,h⟩:=h
        exact yS ho rg k h
      · exact h.elim
    | value f=>
      simp only [vl] at h
      split at h
      · rename_i g first caps hf
        obtain ⟨hc,h⟩:=h
        intro ro G a w Kc Q hr ht hk
        have hfv:=ht.eval f
        rw [hf] at hfv
        generalize hcv:a.eval f=cv at hfv
        cases hfv with
        | fn _ _ _ fs cs q1 q2 q3 q4=>
        unfold qU at hc
        cases hfn:P.funcs[g]? with
        | none=>simp [hfn] at hc
        | some fn=>
        simp only [hfn,Bool.and_eq_true,Bool.not_eq_true'] at hc
        have hrun:(execOp a.eval o).run P w = .ok (.enter g (fs++xs.map a.eval++cs)) w:=by
          have hb:fn.body≠none:=by intro e;simp [e] at hc
          have hnm : fn.name ≠ "runtime.NumGoroutine" := by simpa using hc.1
          simp [execOp,ho,resolve,hcv,Deferred.ofValue,invoke,callFunc,hfn,hnm,hb]
        refine Bx hrun (h G w _ hr ⟨by simp only [List.length_append,List.length_map,Array.length_toList,Array.size_append,Array.size_map];omega,λi h1 h2=>?_⟩) ?_
        · simp only [List.length_append,List.length_map,Array.length_toList,Array.size_append,Array.size_map] at h1 h2
          by_cases hf0:i<first.length
          · have e1:(first++(xs.toList.map (ev t)++caps))[i]'(by simp;omega)=first[i]:=List.getElem_append_left hf0
            have e2:(fs++xs.map a.eval++cs)[i]'(by simp;omega)=fs[i]'om:=by
              rw [Array.getElem_append_left (by simp;omega),Array.getElem_append_left om]
            rw [e1,e2]
            exact q3 _ _ _
          · by_cases hi:i-first.length<xs.size
            · have e1:(first++(xs.toList.map (ev t)++caps))[i]'(by simp;omega)=ev t xs[i-first.length]:=by
                rw [List.getElem_append_right om,List.getElem_append_left (by simpa using hi)];simp
              have e2:(fs++xs.map a.eval++cs)[i]'(by simp;omega)=a.eval xs[i-first.length]:=by
                rw [Array.getElem_append_left (by simp;omega),Array.getElem_append_right om];simp [q1]
              rw [e1,e2]
              exact ht.eval _
            · have e1:(first++(xs.toList.map (ev t)++caps))[i]'(by simp;omega)=caps[i-first.length-xs.size]'om:=by
                rw [List.getElem_append_right om,List.getElem_append_right (by simp;omega)];simp
              have e2:(fs++xs.map a.eval++cs)[i]'(by simp;omega)=cs[i-first.length-xs.size]'om:=by
                rw [Array.getElem_append_right (by simp;omega)]
                congr 1
                simp only [Array.size_append,Array.size_map];omega
              rw [e1,e2]
              exact q4 _ _ _
        · rintro e w' ⟨v,av,S',G',rfl,b1,b2,b3,b4⟩
          exact ⟨v,rfl,hk v av S' G' w' b1 b2 b3 b4⟩
      · exact h.elim
  | _=>rw [ho] at h;exact h.elim
def vop (P:Program) (rg:Nat) (o:Oper) (t:Env) (S:St) (K:AV->St->Prop):Prop:=
  bif D8 o.op then vl P rg (o.dst.getD 0) o.op (ev t) S K else vq P o.op (ev t) S (λv=>K v S)
theorem kD {P:Program} {n rg:Nat} {o:Oper} {t:Env} {S:St} {K:AV->St->Prop} (h:vop P rg o t S K):SOp P n o t S K:=by
  unfold vop at h
  cases hl:D8 o.op with
  | true=>
    rw [hl] at h
    have h':vl P rg (o.dst.getD 0) o.op (ev t) S K:=h
    exact BB h'
  | false=>
    rw [hl] at h
    have h':vq P o.op (ev t) S (λv=>K v S):=h
    exact (BA h').sop
def tn (P:Program) (rg:Nat) (ops:List Oper):List Oper->Env->St->(Env->St->Prop)->Prop
  | [],t,S,K=>K t S
  | o :: rest,t,S,K=>match o.guard with
    | none=>vop P rg o t S (λv S'=>tn P rg ops rest (cY t o.dst v) S' K)
    | some (j,want)=>match (ops[j]?).bind (·.dst) with
      | some d=>match t d with
        | .bool b=>(b=want->vop P rg o (upd t d (.bool want)) S (λv S'=>tn P rg ops rest (cY (upd t d (.bool want)) o.dst v) S' K))/\
            (b = !want->tn P rg ops rest (cY (upd t d (.bool !want)) o.dst .junk) S K)
        | _=>False
      | none=>False
structure AK where
  nrm:Env->St->Prop
  ex:Nat->Env->St->Prop
  ret:Env->St->Prop
def lift (n:Nat) (G:Ghost) (K:Env->St->Prop) (a:Act) (w:World):Prop:=∃t S G',K t S/\G.le G'/\Rel G' S w/\TR n G' t a
def AK.lift (n:Nat) (G:Ghost) (Q:AK):Exit->Act->World->Prop
  | .normal=>Gg.lift n G Q.nrm
  | .exit id=>Gg.lift n G (Q.ex id)
  | .ret=>Gg.lift n G Q.ret
  | _=>λ_ _=>False
theorem lift_mono {n:Nat} {G G':Ghost} {K:Env->St->Prop} {a:Act} {w:World} (h:lift n G' K a w) (hg:G.le G'):lift n G K a w:=
  let ⟨t,S,G2,a1,a2,a3,a4⟩:=h;⟨t,S,G2,a1,hg.trans a2,a3,a4⟩
theorem xk {t:Env} {d:Nat} {v:AV} (h:t d=v):upd t d v=t:=by
  funext k
  unfold upd
  split
  · rename_i e;rw [e,h]
  · rfl
theorem Bv {n:Nat} {G:Ghost} {t:Env} {a:Act} (h:TR n G t a) {ops:List Oper} {j d:Nat} {b:Bool} (hd:(ops[j]?).bind (·.dst)=some d) (hb:t d = .bool b) :
    yielded ops.toArray a.tmps j=some b:=by
  have h1:=h.2.2 d
  rw [hb] at h1
  generalize hv:a.tmps.getD d undef=v at h1
  cases h1
  unfold yielded
  simp only [List.getElem?_toArray,hd]
  rw [Array.getD_eq_getD_getElem?] at hv
  cases hg:a.tmps[d]? with
  | none=>rw [hg] at hv;simp [undef] at hv
  | some x=>rw [hg] at hv;simp at hv;subst hv;simp only [Option.bind_some,hg]
theorem VR.undef (G:Ghost):VR G (.tuple []) undef:=.tuple [] #[] rfl (λi h=>by simp at h)
theorem Dr {n:Nat} {G:Ghost} {t:Env} {a:Act} (h:TR n G t a) {ops:List Oper} {j d:Nat} (hd:(ops[j]?).bind (·.dst)=some d) (hb:t d = .tuple []):yielded ops.toArray a.tmps j=none:=by
  have h1:=h.2.2 d
  rw [hb] at h1
  generalize hv:a.tmps.getD d undef=v at h1
  cases h1 with
  | tuple _ xs q1 _=>
    unfold yielded
    simp only [List.getElem?_toArray,hd]
    rw [Array.getD_eq_getD_getElem?] at hv
    cases hg:a.tmps[d]? with
    | none=>simp [hg]
    | some x=>rw [hg] at hv;simp at hv;subst hv;simp [hg]
def EWk (t:Env) (S:St) (t':Env) (S':St):Prop:=∀(n:Nat) (G:Ghost) (a:Act) (w:World),Rel G S w->TR n G t a->∃G',G.le G'/\Rel G' S' w/\TR n G' t' a
theorem EWk.trans {t t' t'':Env} {S S' S'':St} (h:EWk t S t' S') (h':EWk t' S' t'' S''):EWk t S t'' S'':=λn G a w hr ht=>
  let ⟨G1,a1,a2,a3⟩:=h n G a w hr ht
  let ⟨G2,b1,b2,b3⟩:=h' n G1 a w a2 a3
  ⟨G2,a1.trans b1,b2,b3⟩
def Later (K:Env->St->Prop) (t:Env) (S:St):Prop:=∀(n:Nat) (G:Ghost) (a:Act) (w:World),Rel G S w->TR n G t a->lift n G K a w
def vdr (P:Program) (n:Nat) (ops:Array Oper) (K:Env->St->Prop) (t:Env) (S:St):Prop:=
  ∀(ro:Option Nat) (G:Ghost) (a:Act) (w:World) (Q:Exit->Act->World->Prop),Rel G S w->TR n G t a->(∀a w,lift n G K a w->Q .normal a w)->
    wpAnyIn (fen ro) 0 P .any ops Q ops.size (Array.replicate ops.size false) a w
def vc (P:Program) (n rg:Nat):Code->AK->Env->St->Prop
  | .skip,Q,t,S=>Q.nrm t S
  | .region _ ops draw,Q,t,S=>bif draw then vdr P n ops Q.nrm t S else tn P rg ops.toList ops.toList t S Q.nrm
  | .seq a b,Q,t,S=>∃R:Env->St->Prop,vc P n rg a { Q with nrm:=R } t S/\∀t S,R t S->Later (vc P n rg b Q) t S
  | .cond c a b,Q,t,S=>match ev t c with
    | .bool v=>(v=true->vc P n rg a Q t S)/\(v=false->vc P n rg b Q t S)
    | _=>False
  | .block id c,Q,t,S=>vc P n rg c { Q with ex:=λi t S=>if i=id then Q.nrm t S else Q.ex i t S } t S
  | .loop c,Q,t,S=>∃(I:Env->St->Prop) (μ:Env->St->Nat),I t S/\∀t S,I t S->vc P n rg c { Q with nrm:=λt' S'=>I t' S'/\μ t' S'<μ t S } t S
  | .exit id,Q,t,S=>Q.ex id t S
  | .ret,Q,t,S=>Q.ret t S
  | _,_,_,_=>False
theorem yK {P:Program} {F:Fence} {n:Nat} {c:Code} {Q:Exit->Act->World->Prop} {α:Type} (I:α->Act->World->Prop) (μ:α->Nat) {a:Act} {w:World} {x:α} (h₀:I x a w)
    (round:∀x a w,I x a w->c.wpIn F n P (Exit.then (λa' w'=>∃x',I x' a' w'/\μ x'<μ x) Q) a w):(Code.loop c).wpIn F n P Q a w:=by
  intro b k cs hro hb hr
  have key:∀j x a w,μ x=j->I x a w->
      ∃e a' w',Q e a' w'/\ArrivesIn (Machine.fenced P F) P (lone (b.atR a (.code c :: .inLoop c :: k)) cs w) b k cs e a' w':=by
    intro j
    induction j using Nat.strongRecOn with
    | _ j ih=>
      intro x a w hn hI
      obtain ⟨e,a₁,w₁,hq,harr⟩:=round x a w hI b (.inLoop c :: k) cs hro hb hr
      cases e with
      | normal=>
        obtain ⟨x',hI₁,hlt⟩:=hq
        obtain ⟨e₂,a₂,w₂,hq₂,harr₂⟩:=ih (μ x') (hn▸hlt) x' a₁ w₁ rfl hI₁
        exact ⟨e₂,a₂,w₂,hq₂,.of_steps (StepsIn.trans harr (.one (fenced_calm hb hr rfl) stepR_inLoop)) harr₂⟩
      | exit id=>exact ⟨_,a₁,w₁,hq,.pass (x:=.inLoop c) rfl (λ_ _=>.inl (by simp)) harr⟩
      | goto l=>exact ⟨_,a₁,w₁,hq,.pass (x:=.inLoop c) rfl (λ_ _=>.inl (by simp)) harr⟩
      | ret=>exact ⟨_,a₁,w₁,hq,.pass (x:=.inLoop c) rfl (λ_ _=>.inl (by simp)) harr⟩
      | panic ch=>exact ⟨_,a₁,w₁,hq,.pass (x:=.inLoop c) rfl (λ_ _=>.inl (by simp)) harr⟩
      | outgrown=>exact ⟨_,a₁,w₁,hq,.pass (x:=.inLoop c) rfl (λ_ _=>.inl (by simp)) harr⟩
  obtain ⟨e,a',w',hq,harr⟩:=key _ x a w rfl h₀
  exact ⟨e,a',w',hq,.of_steps (.one (fenced_calm hb hr rfl) stepR_loop) harr⟩
def ju (b:Bool) (n:Nat):Code->Bool
  | .region _ ops _=>ops.all λo=>match o.dst with | some d=>decide (d<n) | none=>true
  | .seq x y=>ju b n x && ju b n y
  | .cond _ x y=>ju b n x && ju b n y
  | .block _ c=>ju b n c
  | .loop c=>ju b n c
  | .rangeFunc _ ps x c=>!b && (ps.all λp=>decide (p<n)) && ju true n x && ju true n c
  | _=>true
def pV (P:Program):List ResultVar->Env->St->(List AV->Prop)->Prop
  | [],_,_,K=>K []
  | .tmp k :: rest,t,S,K=>pV P rest t S (λvs=>K (t k :: vs))
  | .cell a T :: rest,t,S,K=>iI P T (t a) S (λv=>pV P rest t S (λvs=>K (v :: vs)))
def Dt:List AV->AV | [v]=>v | vs=>.tuple vs
def Wk (v:AV) (S:St) (v':AV) (S':St):Prop:=∀(G:Ghost) (w:World) (x:Value),Rel G S w->VR G v x->∃G',G.le G'/\Rel G' S' w/\VR G' v' x
theorem Wk.sub {v:AV} {S S':St} (h:S'.sub S):Wk v S v S':=λG _ _ hr hv=>⟨G,Ghost.le.refl G,hr.sub h,hv⟩
def eW (R:AV->St->Prop) (v:AV) (S:St):Prop:=∀(G:Ghost) (w:World) (x:Value),Rel G S w->VR G v x->∃v' S' G',R v' S'/\G.le G'/\Rel G' S' w/\VR G' v' x
theorem eW.now {R:AV->St->Prop} {v:AV} {S:St} (h:R v S):eW R v S:=λG _ _ hr hv=>⟨v,S,G,h,Ghost.le.refl G,hr,hv⟩
theorem eW.wk {R:AV->St->Prop} {v v':AV} {S S':St} (hw:Wk v S v' S') (h:eW R v' S'):eW R v S:=λG w x hr hv=>
  let ⟨G1,a1,a2,a3⟩:=hw G w x hr hv
  let ⟨v2,S2,G2,b0,b1,b2,b3⟩:=h G1 w x a2 a3
  ⟨v2,S2,G2,b0,a1.trans b1,b2,b3⟩
theorem l7 {P:Program} {n:Nat} {G:Ghost} {t:Env} {S:St} {a:Act} {w:World} (hr:Rel G S w) (ht:TR n G t a):∀(l:List ResultVar) (K:List AV->Prop),pV P l t S K->
    ∃(xs:List Value) (vs:List AV),(l.mapM λr=>(match r with | .tmp t=>pure (a.tmps.getD t undef) | .cell ad ty=>do loadVar ty (←asAddr (a.tmps.getD ad undef)):Sem Value)).run P w = .ok xs w/\K vs/\
      xs.length=vs.length/\∀i (h:i<vs.length) (h':i<xs.length),VR G vs[i] xs[i]
  | [],K,h=>⟨[],[],by simp,h,rfl,λi h=>by simp at h⟩
  | .tmp k :: rest,K,h=>by
    obtain ⟨xs,vs,h1,h2,h3,h4⟩:=l7 hr ht rest _ h
    refine ⟨a.tmps.getD k undef :: xs,t k :: vs,by simp only [List.mapM_cons,Sem.run_bind,Sem.run_pure,Result.andThen_ok,h1],h2,by simp [h3],λi hi hi'=>?_⟩
    cases i with
    | zero=>exact ht.2.2 k
    | succ i=>exact h4 i (by simpa using hi) (by simpa using hi')
  | .cell ad ty :: rest,K,h=>by
    obtain ⟨v,av,q1,q2,q3⟩:=Cd (P:=P) hr (ht.2.2 ad) h
    obtain ⟨xs,vs,h1,h2,h3,h4⟩:=l7 hr ht rest _ q2
    have hl:((do loadVar ty (←asAddr (a.tmps.getD ad undef)):Sem Value)).run P w = .ok v w:=by
      have hp:=ht.2.2 ad
      simp only [pV,iI] at h
      cases hta:t ad<;>rw [hta] at h hp<;>first
        | exact h.elim
        | (generalize a.tmps.getD ad undef=z at hp q1 ⊢
           cases hp
           simpa [Instr.loadAt,Instr.sureAddr,asAddr] using q1)
    refine ⟨v :: xs,av :: vs,by simp only [List.mapM_cons,Sem.run_bind,hl,Result.andThen_ok,h1,Sem.run_pure],h2,by simp [h3],λi hi hi'=>?_⟩
    cases i with
    | zero=>exact q3
    | succ i=>exact h4 i (by simpa using hi) (by simpa using hi')
def args (as:List AV):Env:=λi=>as.getD i .junk
def xH (P:Program) (rs:List ResultVar) (R:AV->St->Prop):Env->St->Prop:=λt S=>pV P rs t S (λvs=>eW R (Dt vs) S)
theorem Bk (S:St) (r:Nat):(S.clear r).sub S:=λr' k x h=>by
  simp only [St.clear] at h
  split at h
  · cases h
  · exact h
end Go.Gg
namespace Go.Gg
def vo (P:Program) (rg:Nat) (d:Option Nat) (op:Op) (t:Env) (S:St) (K:AV->St->Prop):Prop:=
  bif D8 op then vl P rg (d.getD 0) op (ev t) S K else vq P op (ev t) S (λv=>K v S)
section
variable {P:Program} {n rg:Nat} {d:Option Nat} {t:Env} {S:St} {K:AV->St->Prop} {ty:TypeId} {pos:String} {after:Array Edge} {Q:AK} {KE:Env->St->Prop}
@[go_sem ↓] theorem vc_skip:vc P n rg .skip Q t S=Q.nrm t S:=rfl
@[go_sem ↓] theorem vc_region {id:Nat} {l:List Oper}:vc P n rg (.region id l.toArray false) Q t S=tn P rg l l t S Q.nrm:=rfl
@[go_sem ↓] theorem vc_drawn {id:Nat} {ops:Array Oper}:vc P n rg (.region id ops true) Q t S=vdr P n ops Q.nrm t S:=rfl
@[go_sem ↓] theorem vc_cond {c:Operand} {a b:Code}:vc P n rg (.cond c a b) Q t S=(match ev t c with
    | .bool v=>(v=true->vc P n rg a Q t S)/\(v=false->vc P n rg b Q t S)
    | _=>False):=rfl
@[go_sem ↓] theorem vc_block {id:Nat} {c:Code}:vc P n rg (.block id c) Q t S=vc P n rg c { Q with ex:=λi t S=>if i=id then Q.nrm t S else Q.ex i t S } t S:=rfl
@[go_sem ↓] theorem vc_exit {id:Nat}:vc P n rg (.exit id) Q t S=Q.ex id t S:=rfl
@[go_sem ↓] theorem vc_ret:vc P n rg .ret Q t S=Q.ret t S:=rfl
@[congr] theorem gives_congr {R:AV->St->Prop} {v v':AV} {S S':St} (hv:v=v') (hS:S=S'):eW R v S=eW R v' S':=by rw [hv,hS]
@[congr] theorem later_congr {K:Env->St->Prop} {t:Env} {S:St}:Later K t S=Later K t S:=rfl
def E8 (I:Env->St->Prop) (μ:Env->St->Nat) (m:Nat) (t:Env) (S:St):Prop:=I t S/\μ t S<m
@[congr] theorem again_congr {I:Env->St->Prop} {μ:Env->St->Nat} {m:Nat} {t:Env} {S:St}:E8 I μ m t S=E8 I μ m t S:=rfl
@[go_sem ↓] theorem vops_nil {ops:List Oper}:tn P rg ops [] t S KE=KE t S:=rfl
@[go_sem ↓] theorem vops_none {ops rest:List Oper} {op:Op}:tn P rg ops (⟨d,op,ty,pos,after,none⟩ :: rest) t S KE=vo P rg d op t S (λv S'=>tn P rg ops rest (cY t d v) S' KE):=rfl
@[go_sem ↓] theorem vops_some {ops rest:List Oper} {op:Op} {j:Nat} {want:Bool}:tn P rg ops (⟨d,op,ty,pos,after,some (j,want)⟩ :: rest) t S KE=(match (ops[j]?).bind (·.dst) with
      | some g=>match t g with
         | .bool b=>(b=want->vo P rg d op (upd t g (.bool want)) S (λv S'=>tn P rg ops rest (cY (upd t g (.bool want)) d v) S' KE))/\
            (b = !want->tn P rg ops rest (cY (upd t g (.bool !want)) d .junk) S KE)
         | _=>False
      | none=>False):=rfl
@[go_sem] theorem updo_some {k:Nat} {v:AV}:cY t (some k) v=upd t k v:=rfl
@[go_sem] theorem updo_none {v:AV}:cY t none v=t:=rfl
@[go_sem] theorem upd_at {k k':Nat} {v:AV}:upd t k v k'=if k'=k then v else t k':=rfl
@[go_sem] theorem ev_tmp {k:Nat}:ev t (.tmp k)=t k:=rfl
@[go_sem] theorem ev_const {v:Value}:ev t (.const v)=ofConst v:=rfl
@[go_sem] theorem ev_func {f:FuncId}:ev t (.func f) = .fn (.func f) [] []:=rfl
@[go_sem] theorem ofConst_int {k:IntKind} {m:Int}:ofConst (.int k m) = .int k m:=rfl
@[go_sem] theorem ofConst_bool {b:Bool}:ofConst (.bool b) = .bool b:=rfl
@[go_sem] theorem ofConst_string {s:ByteArray}:ofConst (.string s) = .str s:=rfl
@[go_sem] theorem ofConst_nilp:ofConst (.pointer none) = .nilp:=rfl
@[go_sem] theorem ofConst_nil:ofConst (.slice none 0 0) = .nil:=rfl
@[go_sem] theorem ofConst_nilmap:ofConst (.map none) = .nilmap:=rfl
@[go_sem] theorem ofConst_nilf:ofConst .nilFunc = .nilf:=rfl
@[go_sem] theorem ofConst_niface:ofConst .nilIface = .niface:=rfl
@[go_sem] theorem ofConst_iface {T:TypeId} {k:IntKind} {m:Int}:ofConst (.iface T (.int k m)) = .iface T (.int k m):=rfl
@[go_sem ↓] theorem vo_move {x:Operand}:vo P rg d (.move x) t S K=K (ev t x) S:=rfl
@[go_sem ↓] theorem vo_assign {x:Operand}:vo P rg d (.assign x) t S K=K (ev t x) S:=rfl
@[go_sem ↓] theorem vo_pick {c a b:Operand}:vo P rg d (.pick c a b) t S K=(match ev t c with | .bool v=>K (bif v then ev t a else ev t b) S | _=>False):=rfl
@[go_sem ↓] theorem vo_bin {op:BinOp} {T T':TypeId} {x y:Operand}:vo P rg d (.binOp op T x y T') t S K=wb P op T x y (ev t x) (ev t y) (λv=>K v S):=rfl
@[go_sem ↓] theorem vo_un {op:UnOp} {T:TypeId} {x:Operand}:vo P rg d (.unOp op T x) t S K=vUn op (ev t x) (λv=>K v S):=rfl
@[go_sem ↓] theorem vo_conv {s T:TypeId} {x:Operand}:vo P rg d (.convert s T x) t S K=(match ev t x,td P T,td P s with | .int _ m,.int k,.int _=>K (.int k (k.wrap m)) S | _,_,_=>False):=by
  unfold vo vq;rfl
@[go_sem ↓] theorem vo_iface {T:TypeId} {x:Operand}:vo P rg d (.makeInterface T x) t S K=((match td P T with | .iface | .other=>False | _=>True)/\K (.iface T (ev t x)) S):=rfl
@[go_sem ↓] theorem vo_func {fn:Fn} {a b:List Operand}:vo P rg d (.makeFunc fn a.toArray b.toArray) t S K=K (.fn fn (a.map (ev t)) (b.map (ev t))) S:=rfl
@[go_sem ↓] theorem vo_build {T:TypeId} {parts:List (Nat×Operand)}:vo P rg d (.build T parts.toArray) t S K=kJ P T (parts.map λp=>(p.1,ev t p.2)) (λv=>K v S):=rfl
@[go_sem ↓] theorem vo_load {T:TypeId} {x:Operand}:vo P rg d (.load T x) t S K=iI P T (ev t x) S (λv=>K v S):=rfl
@[go_sem ↓] theorem vo_nilCheck {x:Operand}:vo P rg d (.nilCheck x) t S K=((match ev t x with | .ptr .. | .iptr _=>True | .fn (.func _) _ _=>True | _=>False)/\K (ev t x) S):=rfl
@[go_sem ↓] theorem vo_fieldAddr {T f:Nat} {x:Operand}:vo P rg d (.fieldAddr T x f) t S K=ep P T f (ev t x) (λv=>K v S):=rfl
@[go_sem ↓] theorem vo_field {T f:Nat} {x:Operand}:vo P rg d (.field T x f) t S K=mS P T f (ev t x) (λv=>K v S):=rfl
@[go_sem ↓] theorem vo_indexAddr {T:TypeId} {x i:Operand}:vo P rg d (.indexAddr T x i) t S K=gd P T (ev t x) (ev t i) (λv=>K v S):=rfl
@[go_sem ↓] theorem vo_index {T:TypeId} {x i:Operand}:vo P rg d (.index T x i) t S K=lX P T (ev t x) (ev t i) (λv=>K v S):=rfl
@[go_sem ↓] theorem vo_slice {T:TypeId} {x:Operand} {lo hi mx:Option Operand}:vo P rg d (.slice T x lo hi mx) t S K=jf P T (ev t x) (lo.map (ev t)) (hi.map (ev t)) (mx.map (ev t)) (λv=>K v S):=rfl
@[go_sem ↓] theorem vo_extract {x:Operand} {i:Nat}:vo P rg d (.extract x i) t S K=(match ev t x with | .tuple vs=>i<vs.length/\K (vs.getD i .junk) S | _=>False):=rfl
@[go_sem ↓] theorem vo_assert {x:Operand} {a T:TypeId} {ok:Bool}:vo P rg d (.typeAssert x a T ok) t S K=lD P T ok (ev t x) (λv=>K v S):=rfl
@[go_sem ↓] theorem vo_len {x:Operand} {T:TypeId}:vo P rg d (.call { callee:=.builtin .len,args:=#[x],argTypes:=#[T] }) t S K=ir P T (ev t x) S (λv=>K v S):=rfl
@[go_sem ↓] theorem vo_lookup {T:TypeId} {x i:Operand} {ok:Bool}:vo P rg d (.lookup T x i ok) t S K=gB P T ok (ev t x) (ev t i) S (λv=>K v S):=rfl
@[go_sem ↓] theorem vo_makeMap {T:TypeId} {r:Option Operand}:vo P rg d (.makeMap T r) t S K=kI P rg (d.getD 0) T (r.map (ev t)) S K:=rfl
@[go_sem ↓] theorem vo_mapUpd {T:TypeId} {m i x:Operand}:vo P rg d (.mapUpdate T m i x) t S K=eE P T (ev t m) (ev t i) (ev t x) S K:=rfl
@[go_sem ↓] theorem vo_insert {T:TypeId} {m i x:Operand}:vo P rg d (.insert T m i x) t S K=eE P T (ev t m) (ev t i) (ev t x) S K:=rfl
@[go_sem ↓] theorem vo_max {x y:Operand} {ts:Array TypeId}:vo P rg d (.call { callee:=.builtin .max,args:=#[x,y],argTypes:=ts }) t S K =
    (match ev t x,ev t y with | .int k m,.int _ n=>K (.int k (if m<n then n else m)) S | _,_=>False):=by unfold vo vq;rfl
@[go_sem ↓] theorem vo_min {x y:Operand} {ts:Array TypeId}:vo P rg d (.call { callee:=.builtin .min,args:=#[x,y],argTypes:=ts }) t S K =
    (match ev t x,ev t y with | .int k m,.int _ n=>K (.int k (if n<m then n else m)) S | _,_=>False):=by unfold vo vq;rfl
@[go_sem ↓] theorem vo_alloc {T:TypeId}:vo P rg d (.alloc T) t S K=(cX P T=true/\∀g,K (.ptr rg (d.getD 0) g 0 0) (S.set rg (d.getD 0) (.arr (zav P T).cells.length [zav P T]) g)):=rfl
@[go_sem ↓] theorem vo_box {T:TypeId} {x:Operand}:vo P rg d (.box T x) t S K=(((ev t x).solid=true/\0<(ev t x).cells.length)/\∀g,K (.ptr rg (d.getD 0) g 0 0) (S.set rg (d.getD 0) (.arr (ev t x).cells.length [ev t x]) g)):=rfl
@[go_sem ↓] theorem vo_store {T:TypeId} {a x:Operand}:vo P rg d (.store T a x) t S K=iH P T (ev t a) (ev t x) S K:=rfl
@[go_sem ↓] theorem vo_make {T:TypeId} {l c:Operand}:vo P rg d (.makeSlice T l c) t S K=pZ P rg (d.getD 0) T (ev t l) (ev t c) S K:=rfl
@[go_sem ↓] theorem vo_buildSlice {T:TypeId} {len:Nat} {parts:List (Nat×Operand)}:vo P rg d (.buildSlice T len parts.toArray) t S K=d7 P rg (d.getD 0) T len (parts.map (·.1)) (parts.map λp=>ev t p.2) S K:=rfl
@[go_sem ↓] theorem vo_append {T:TypeId} {b x:Operand}:vo P rg d (.call { callee:=.builtin .append,args:=#[b,x],argTypes:=#[T,T] }) t S K=dX P rg (d.getD 0) T (ev t b) (ev t x) S K:=by
  have:vo P rg d (.call { callee:=.builtin .append,args:=#[b,x],argTypes:=#[T,T] }) t S K=(T=T/\dX P rg (d.getD 0) T (ev t b) (ev t x) S K):=rfl
  rw [this];simp
@[go_sem ↓] theorem vo_call {f:Operand} {xs:List Operand} {ts:Array TypeId}:vo P rg d (.call { callee:=.value f,args:=xs.toArray,argTypes:=ts }) t S K =
    (match ev t f with | .fn (.func g) fs caps=>Ctr P g (fs++(xs.map (ev t)++caps)) S K | _=>False):=rfl
@[go_sem] theorem set_at {r k r' k' g:Nat} {o:GObj}:St.set S r k o g r' k'=if r'=r/\k'=k then some (o,g) else S r' k':=rfl
@[go_sem] theorem clear_set {r k g:Nat} {o:GObj}:(St.set S r k o g).clear r=S.clear r:=by
  funext r' k'
  simp only [St.clear,St.set]
  split
  · rfl
  · rename_i h;rw [if_neg (λhc=>h hc.1)]
@[go_sem] theorem set_set {r k g g':Nat} {o o':GObj}:(St.set S r k o g).set r k o' g'=S.set r k o' g':=by
  funext a b
  simp only [St.set]
  split<;>rfl
@[go_sem] theorem del_set {r k g:Nat} {o:GObj}:(St.set S r k o g).del r k=S.del r k:=by
  funext a b
  simp only [St.set,St.del]
  split<;>rfl
@[go_sem] theorem clear_del {r k:Nat}:(S.del r k).clear r=S.clear r:=by
  funext a b
  simp only [St.del,St.clear]
  split
  · rfl
  · rename_i h;rw [if_neg (λhc=>h hc.1)]
theorem zq {r:Nat} (h:∀k,S r k=none):S.clear r=S:=by
  funext a b
  simp only [St.clear]
  split
  · rename_i e;rw [e,h]
  · rfl
@[go_sem] theorem clear_clear {r:Nat}:(S.clear r).clear r=S.clear r:=zq (λk=>by simp [St.clear])
@[go_sem] theorem cells_int {k:IntKind} {m:Int}:(AV.int k m).cells=[.int k m]:=rfl
@[go_sem] theorem cells_bool {b:Bool}:(AV.bool b).cells=[.bool b]:=rfl
@[go_sem] theorem cells_agg {cs:List AV}:(AV.agg cs).cells=cs:=rfl
@[go_sem] theorem cells_list {cs:List AV}:(AV.list cs).cells=[.list cs]:=rfl
@[go_sem] theorem cells_nil:(AV.nil).cells=[.nil]:=rfl
@[go_sem] theorem cells_sl {kk r k g off len:Nat}:(AV.sl kk r k g off len).cells=[.sl kk r k g off len]:=rfl
@[go_sem] theorem cells_map {r k g:Nat}:(AV.map r k g).cells=[.map r k g]:=rfl
@[go_sem] theorem cells_nilmap:(AV.nilmap).cells=[.nilmap]:=rfl
@[go_sem] theorem cells_ptr {r k g i off:Nat}:(AV.ptr r k g i off).cells=[.ptr r k g i off]:=rfl
@[go_sem] theorem cells_nilp:(AV.nilp).cells=[.nilp]:=rfl
@[go_sem] theorem cells_fn {f:Fn} {a b:List AV}:(AV.fn f a b).cells=[.fn f a b]:=rfl
@[go_sem] theorem cells_nilf:(AV.nilf).cells=[.nilf]:=rfl
@[go_sem] theorem cells_niface:(AV.niface).cells=[.niface]:=rfl
@[go_sem] theorem cells_iface {T:TypeId} {v:AV}:(AV.iface T v).cells=[.iface T v]:=rfl
attribute [go_sem ↓] rU.eq_def po.eq_def wb.eq_def vUn.eq_def iI.eq_def gd.eq_def lX.eq_def jf.eq_def ep.eq_def mS.eq_def kJ.eq_def ir.eq_def ri.eq_def lD.eq_def iH.eq_def pZ.eq_def d7.eq_def dX.eq_def
attribute [go_sem] bnd mQ ldv ky stv fE AV.one AV.solid fQ pV Dt xH
  List.getD_cons_zero List.getD_cons_succ List.length_cons List.length_nil List.map_cons List.map_nil Option.map_some Option.map_none Option.getD_some Option.getD_none List.drop_succ_cons List.drop_zero List.take_succ_cons List.take_zero
  List.cons_append List.nil_append List.append_nil List.all_cons List.all_nil List.foldl_cons List.foldl_nil cond_true cond_false List.getElem?_cons_zero List.getElem?_cons_succ Option.bind_some Option.bind_none List.set_cons_zero List.set_cons_succ List.range_succ List.range_zero beq_self_eq_true List.length_take List.length_drop List.length_append List.length_replicate List.length_set
  eq_self Bool.not_true Bool.not_false Int.toNat_natCast Nat.zero_add Nat.add_zero true_and and_true if_true if_false Bool.and_true Bool.true_and and_self reduceCtorEq false_implies true_implies implies_true List.drop_nil List.take_nil
end
@[go_sem] theorem args_at {as:List AV} {k:Nat}:args as k=as.getD k .junk:=rfl
@[go_sem] theorem drop_and {p q:Prop} (h:p):(p/\q)=q:=by simp [h]
def intL (k:IntKind) (l:List Int):List AV:=l.map (.int k)
@[go_sem] theorem intL_len (k:IntKind) (l:List Int):(intL k l).length=l.length:=by simp [intL]
@[go_sem] theorem intL_all (k:IntKind) (l:List Int) (f:AV->Bool):(intL k l).all f=l.all (λm=>f (.int k m)):=by simp [intL,Function.comp_def]
@[go_sem] theorem all_tt {α:Type} (l:List α):(l.all λ_=>true)=true:=by simp
@[go_sem] theorem intL_take (k:IntKind) (l:List Int) (n:Nat):(intL k l).take n=intL k (l.take n):=by simp [intL]
@[go_sem] theorem intL_drop (k:IntKind) (l:List Int) (n:Nat):(intL k l).drop n=intL k (l.drop n):=by simp [intL]
@[go_sem] theorem intL_append (k:IntKind) (l m:List Int):intL k l++intL k m=intL k (l++m):=by simp [intL]
@[go_sem] theorem intL_snoc (k:IntKind) (l:List Int) (m:Int):intL k l++[.int k m]=intL k (l++[m]):=by simp [intL]
@[go_sem] theorem intL_cons (k:IntKind) (l:List Int) (m:Int):AV.int k m :: intL k l=intL k (m :: l):=by simp [intL]
@[go_sem] theorem intL_rep (k:IntKind) (n:Nat) (m:Int):List.replicate n (.int k m)=intL k (List.replicate n m):=by simp [intL]
@[go_sem] theorem intL_set (k:IntKind) (l:List Int) (i:Nat) (m:Int):(intL k l).set i (.int k m)=intL k (l.set i m):=by simp [intL]
@[go_sem] theorem intL_get (k:IntKind) (l:List Int) (i:Nat) (h:i<l.length):(intL k l).getD i .junk = .int k (l.getD i 0):=by
  rw [intL,List.getD_eq_getElem?_getD,List.getD_eq_getElem?_getD];simp [h]
@[go_sem] theorem cast_zero:((0:Nat):Int)=0:=rfl
@[go_sem] theorem cast_one:((1:Nat):Int)=1:=rfl
@[go_sem] theorem cast_succ (a:Nat):((a+1:Nat):Int)=(a:Int)+1:=rfl
@[go_sem] theorem toNat_add (a b:Nat):((a:Int)+(b:Int)).toNat=a+b:=om
@[go_sem] theorem toNat_add_one (a:Nat):((a:Int)+1).toNat=a+1:=om
@[go_sem] theorem wrap_u64_id {m:Int} (h0:0<=m) (h1:m<=18446744073709551615):IntKind.u64.wrap m=m:=by simp only [IntKind.wrap,IntKind.bits,IntKind.signed];simp;omega
@[go_sem] theorem wrap_i64_id {m:Int} (h0 : -9223372036854775808<=m) (h1:m<=9223372036854775807):IntKind.i64.wrap m=m:=by rw [IntKind.wrap_i64];omega
theorem nN {m:Int}:IntKind.u64.wrap m=m % 18446744073709551616:=by simp [IntKind.wrap,IntKind.bits,IntKind.signed]
@[go_sem] theorem wrap_u32 {m:Int}:IntKind.u32.wrap m=m % 4294967296:=by simp [IntKind.wrap,IntKind.bits,IntKind.signed]
@[go_sem] theorem wrap_u8 {m:Int}:IntKind.u8.wrap m=m % 256:=by simp [IntKind.wrap,IntKind.bits,IntKind.signed]
structure Hide (p:Prop):Prop where
  out:p
def ix:AV->Nat | .int _ m=>m.toNat | _=>0
@[go_sem] theorem ix_int {k:IntKind} {m:Int}:ix (.int k m)=m.toNat:=rfl
end Go.Gg
namespace Go.Gg
open Go.RowKit (Below)
theorem Az (S:St) (r k:Nat):(S.del r k).sub S:=λr' k' x h=>by
  simp only [St.del] at h
  split at h
  · cases h
  · exact h
theorem Rel.freeze {G:Ghost} {S:St} {w:World} (h:Rel G S w) {r k g kk:Nat} {es:List AV} (hS:S r k=some (.arr kk es,g)) :
    ∃G',G.le G'/\Rel G' (S.del r k) w/\∃L,G.loc r k g=some L/\L.k=kk/\es.length<=L.cap/\L.cap<=maxLen/\(∀i (h:i<es.length),es[i].cells.length=kk)/\
      ∃u:Nat->Nat->Value,(∀i j,i<es.length->j<kk->G'.imm L.block (i*kk+j)=some (u i j))/\(∀i (h:i<es.length) j (h':j<es[i].cells.length),VR G' es[i].cells[j] (u i j)):=by
  obtain ⟨L,hL,hobj,hown⟩:=h.obj _ _ _ _ hS
  have hobj':=hobj
  obtain ⟨hk0,hLk,hcap,hm,hcl,hrows⟩:=hobj
  let G':Ghost:={ G with imm:=λb o=>if b=L.block/\0<L.cap then (w.cell? ⟨b,o,none⟩) else G.imm b o }
  have hle:G.le G':=by
    refine ⟨⟨rfl,λ_ h=>h,rfl⟩,λb o u e=>?_,λ_ _ _ _ e=>e⟩
    show (if b=L.block/\0<L.cap then (w.cell? ⟨b,o,none⟩) else G.imm b o)=some u
    split
    · exact h.imm _ _ _ e
    · exact e
  have hcells:∀i (hi:i<es.length) j (_:j<kk),∃u,w.cell? ⟨L.block,i*kk+j,none⟩=some u/\∀hq:j<es[i].cells.length,VR G (es[i].cells[j]'hq) u:=by
    intro i hi j hj
    obtain ⟨u,h1,h2⟩:=hobj'.cell hi hj
    rw [hLk] at h1
    exact ⟨u,h1,λ_=>h2⟩
  refine ⟨G',hle,?_,L,hL,hLk,hcap,hm,hcl,λi j=>if h':i<es.length/\j<kk then (hcells i h'.1 j h'.2).choose else undef,λi j hi hj=>?_,λi hi j hj=>?_⟩
  · have hs:=h.sub (Az S r k)
    refine ⟨hs.below,λb o u e=>?_,λr' k' o g' e=>?_,hs.inj,hs.fin,hs.fing⟩
    · have e':(if b=L.block/\0<L.cap then (w.cell? ⟨b,o,none⟩) else G.imm b o)=some u:=e
      split at e'
      · exact e'
      · exact h.imm _ _ _ e'
    · have hne:¬(r'=r/\k'=k):=λhc=>by simp only [St.del] at e;rw [if_pos hc] at e;cases e
      have e0:=Az S r k _ _ _ e
      obtain ⟨L',q1,q2,q3⟩:=h.obj _ _ _ _ e0
      refine ⟨L',q1,q2.keep hle (λ_=>rfl),λhc=>⟨(q3 hc).1,λx=>?_⟩⟩
      show (if L'.block=L.block/\0<L.cap then (w.cell? ⟨L'.block,x,none⟩) else G.imm L'.block x)=none
      rw [if_neg (λhb=>h.inj _ _ _ _ _ _ _ _ _ _ e0 hS q1 hL hc hb.2 hne hb.1)]
      exact (q3 hc).2 x
  · show (if L.block=L.block/\0<L.cap then (w.cell? ⟨L.block,i*kk+j,none⟩) else G.imm L.block (i*kk+j))=some (dite _ _ _)
    rw [if_pos ⟨rfl,by omega⟩,dif_pos ⟨hi,hj⟩]
    exact (hcells i hi j hj).choose_spec.1
  · have hjk:j<kk:=by rw [<-hcl i hi];exact hj
    show VR G' _ (dite _ _ _)
    rw [dif_pos (⟨hi,hjk⟩:i<es.length/\j<kk)]
    exact ((hcells i hi j hjk).choose_spec.2 hj).mono hle
def ui (r k g kk:Nat) (es:List AV):AV->AV
  | .sl kk' r' k' g' off len=>if r'=r/\k'=k/\g'=g/\kk'=kk/\off+len<=es.length then .list ((es.drop off).take len) else .sl kk' r' k' g' off len
  | v=>v
def zh (r k g kk:Nat) (es:List AV):AV->AV
  | .agg cs=>.agg (cs.map (ui r k g kk es))
  | v=>ui r k g kk es v
def frz (r k g kk:Nat) (es:List AV):AV->AV
  | .tuple vs=>.tuple (vs.map (zh r k g kk es))
  | v=>zh r k g kk es v
section
variable {G G':Ghost} {S:St} {w:World} {r k g kk:Nat} {es:List AV}
theorem pK {L:Loc} (hle:G.le G') (hL:G.loc r k g=some L) (hk:L.k=kk) (hcap:es.length<=L.cap) (hm:L.cap<=maxLen) (hcl:∀i (h:i<es.length),es[i].cells.length=kk)
    (u:Nat->Nat->Value) (h1:∀i j,i<es.length->j<kk->G'.imm L.block (i*kk+j)=some (u i j)) (h2:∀i (h:i<es.length) j (h':j<es[i].cells.length),VR G' es[i].cells[j] (u i j))
    {v:AV} {x:Value} (hv:VR G v x):VR G' (ui r k g kk es v) x:=by
  cases v with
  | sl kk' r' k' g' off len=>
    simp only [ui]
    split
    · rename_i hc
      obtain ⟨rfl,rfl,rfl,rfl,hlen⟩:=hc
      cases hv with
      | sl _ _ _ _ _ _ a L' hL' hk' hc' hm' ha=>
      obtain rfl:L'=L:=by rw [hL] at hL';exact (Option.some.inj hL').symm
      have hl:((es.drop off).take len).length=len:=by simp;omega
      refine .list _ a len (L'.cap-off) L'.block (off*kk') kk' (λi j=>u (off+i) j) hl.symm om om (λhp=>?_) (λi hi=>?_) (λi j hi hj=>?_) (λi hi j hj=>?_)
      · rw [ha om,hk]
      · simp only [List.getElem_take,List.getElem_drop];exact hcl _ _
      · have:=h1 (off+i) j om hj
        rw [Nat.add_mul,Nat.add_assoc] at this
        exact this
      · simp only [List.getElem_take,List.getElem_drop] at hj ⊢
        exact h2 _ _ j hj
    · exact hv.mono hle
  | _=>exact hv.mono hle
theorem vU {L:Loc} (hle:G.le G') (hL:G.loc r k g=some L) (hk:L.k=kk) (hcap:es.length<=L.cap) (hm:L.cap<=maxLen) (hcl:∀i (h:i<es.length),es[i].cells.length=kk)
    (u:Nat->Nat->Value) (h1:∀i j,i<es.length->j<kk->G'.imm L.block (i*kk+j)=some (u i j)) (h2:∀i (h:i<es.length) j (h':j<es[i].cells.length),VR G' es[i].cells[j] (u i j))
    {v:AV} {x:Value} (hv:VR G v x):VR G' (frz r k g kk es v) x:=by
  have two:∀(v:AV) (x:Value),VR G v x->VR G' (zh r k g kk es v) x:=by
    intro v x hv
    cases v with
    | agg cs=>
      cases hv with
      | agg _ xs q1 q2=>
      refine .agg _ _ (by simpa using q1) (λi h h'=>?_)
      simp only [List.getElem_map]
      exact pK hle hL hk hcap hm hcl u h1 h2 (q2 i (by simpa using h) h')
    | _=>exact pK hle hL hk hcap hm hcl u h1 h2 hv
  cases v with
  | tuple vs=>
    cases hv with
    | tuple _ xs q1 q2=>
    refine .tuple _ _ (by simpa using q1) (λi h h'=>?_)
    simp only [List.getElem_map]
    exact two _ _ (q2 i (by simpa using h) h')
  | _=>exact two _ _ hv
end
theorem Wk.freeze {v:AV} {S:St} {r k g kk:Nat} {es:List AV} (hS:S r k=some (.arr kk es,g)):Wk v S (frz r k g kk es v) (S.del r k):=λG w x hr hv=>by
  obtain ⟨G',hle,hr',L,a1,a2,a3,a4,a5,u,a6,a7⟩:=hr.freeze hS
  exact ⟨G',hle,hr',vU hle a1 a2 a3 a4 a5 u a6 a7 hv⟩
theorem EWk.freezeAll {t:Env} {S:St} {r k g kk:Nat} {es:List AV} (hS:S r k=some (.arr kk es,g)):EWk t S (λi=>frz r k g kk es (t i)) (S.del r k):=λn G a w hr ht=>by
  obtain ⟨G',hle,hr',L,a1,a2,a3,a4,a5,u,a6,a7⟩:=hr.freeze hS
  exact ⟨G',hle,hr',ht.1.mono hle,ht.2.1,λi=>vU hle a1 a2 a3 a4 a5 u a6 a7 (ht.2.2 i)⟩
def VW (v v':AV):Prop:=∀(G:Ghost) (x:Value),VR G v x->VR G v' x
theorem VW.refl (v:AV):VW v v:=λ_ _ h=>h
theorem VW.junk (v:AV):VW v .junk:=λ_ _ _=>.junk _
theorem VW.nil:VW .nil (.list []):=λ_ _ h=>by
  cases h
  exact .list [] none 0 0 0 0 0 (λ_ _=>undef) rfl om (by simp [maxLen]) (λh=>om) (λi h=>by simp at h) (λi _ h=>om) (λi h=>by simp at h)
theorem VW.agg {cs cs':List AV} (hl:cs'.length=cs.length) (h:∀i (h:i<cs.length) (h':i<cs'.length),VW cs[i] cs'[i]):VW (.agg cs) (.agg cs'):=λG x hv=>by
  cases hv with
  | agg _ xs q1 q2=>exact .agg _ _ om (λi h1 h2=>h i om h1 _ _ (q2 i om h2))
theorem VW.tuple {cs cs':List AV} (hl:cs'.length=cs.length) (h:∀i (h:i<cs.length) (h':i<cs'.length),VW cs[i] cs'[i]):VW (.tuple cs) (.tuple cs'):=λG x hv=>by
  cases hv with
  | tuple _ xs q1 q2=>exact .tuple _ _ om (λi h1 h2=>h i om h1 _ _ (q2 i om h2))
theorem Wk.of {v v':AV} {S:St} (h:VW v v'):Wk v S v' S:=λG _ x hr hv=>⟨G,Ghost.le.refl G,hr,h G x hv⟩
theorem eW.drop {R:AV->St->Prop} {v:AV} {S:St} (rg:Nat) (h:eW R v (S.clear rg)):eW R v S:=.wk (Wk.sub (Bk S rg)) h
theorem Rel.mat {G:Ghost} {S:St} {w:World} (hr:Rel G S w) (r k kk:Nat) (hk:0<kk):∃g G',G.le G'/\Rel G' (S.set r k (.arr kk []) g) w/\VR G' (.sl kk r k g 0 0) (.slice none 0 0):=by
  obtain ⟨g,hg⟩:=hr.fresh r k
  obtain ⟨G',q1,q2,_,q4⟩:=hr.put (grownRefl w) r k g (.arr kk []) ⟨0,0,kk,0⟩ (λb hb=>by cases hb) (λh=>by simp at h) (.inl hg)
    (λG' hle=>⟨by omega,rfl,by simp,by simp [maxLen],λi h=>by simp at h,λh=>by simp at h⟩)
  exact ⟨g,G',q1,q4,VR.sl (G:=G') kk r k g 0 0 none _ q2 rfl (by simp) (by simp [maxLen]) (λh=>by simp at h)⟩
theorem Ctr.arg {P:Program} {f:FuncId} {as as':List AV} {S:St} {R:AV->St->Prop} (hl:as'.length=as.length) (hv:∀i (h:i<as.length) (h':i<as'.length),VW as[i] as'[i]) (h:Ctr P f as' S R):Ctr P f as S R:=
  ⟨h.1,λG w vs hr hvs=>h.2 G w vs hr ⟨hvs.1.trans hl.symm,λi h1 h2=>hv i om h1 G _ (hvs.2 i om h2)⟩⟩
end Go.Gg
namespace Go.Gg
abbrev Key:=Nat×Nat
abbrev Eff:=List Key×Option Key
abbrev Chg:=Option (Nat×Nat×(Nat->GObj×Nat))
def Chg.app (e:Chg) (g:Nat) (S:St):St:=match e with | none=>S | some (r,k,f)=>S.set r k (f g).1 (f g).2
def Chg.key (e:Chg):Option Key:=e.map λx=>(x.1,x.2.1)
structure CR where
  v:AV
  rd:List Key
  wr:Option (Nat×Nat×GObj×Nat)
def CR.app (u:CR) (S:St):St:=match u.wr with | none=>S | some (r,k,o,g)=>S.set r k o g
def CR.key (u:CR):Option Key:=u.wr.map λx=>(x.1,x.2.1)
def iD (l:List Key) (w:Option Key) (S' S:St):Prop:=(∀p∈l,S' p.1 p.2=S p.1 p.2)/\(∀p,w=some p->S' p.1 p.2=S p.1 p.2)
theorem iD.refl (l:List Key) (w:Option Key) (S:St):iD l w S S:=⟨λ_ _=>rfl,λ_ _=>rfl⟩
theorem iD.trans {l:List Key} {w:Option Key} {S S' S'':St} (h:iD l w S S') (h':iD l w S' S''):iD l w S S'':=⟨λp hp=>(h.1 p hp).trans (h'.1 p hp),λp hp=>(h.2 p hp).trans (h'.2 p hp)⟩
theorem iD.symm {l:List Key} {w:Option Key} {S S':St} (h:iD l w S S'):iD l w S' S:=⟨λp hp=>(h.1 p hp).symm,λp hp=>(h.2 p hp).symm⟩
def fpo (rg k:Nat) (u:CR) (o:Op) (e:Operand->AV):Eff:=match o with
  | .load _ x=>(match e x with | .ptr r k _ _ _=>[(r,k)] | _=>[],none)
  | .store _ a _=>([],match e a with | .ptr r k _ _ _=>some (r,k) | _=>none)
  | .alloc _ | .box .. | .makeSlice .. | .makeMap ..=>([],some (rg,k))
  | .lookup _ x _ _=>(match e x with | .map r k _=>[(r,k)] | _=>[],none)
  | .mapUpdate _ m _ _=>([],match e m with | .map r k _=>some (r,k) | _=>none)
  | .insert _ m _ _=>([],match e m with | .map r k _=>some (r,k) | _=>none)
  | .buildSlice ..=>(match u.v with | .list _=>([],none) | _=>([],some (rg,k)))
  | .call { callee:=.builtin .append,args:=xs,argTypes:=_ }=>match xs.toList with
    | [b,x]=>(match e x with | .sl _ r k _ _ _=>[(r,k)] | _=>[],match e b with | .sl _ r k _ _ _=>some (r,k) | _=>some (rg,k))
    | _=>([],none)
  | .call { callee:=.builtin .len,args:=xs,argTypes:=_ }=>match xs.toList with
    | [x]=>(match e x with | .map r k _=>[(r,k)] | _=>[],none)
    | _=>([],none)
  | .call { callee:=.value _,args:=_,argTypes:=_ }=>(u.rd,u.key)
  | _=>([],none)
def vBL (P:Program) (T:TypeId) (len:Nat) (idx:List Nat) (es:List AV) (K:AV->Prop):Prop:=
  match td P T with
  | .slice e=>((idx == List.range len)=true/\es.length=len/\cX P e=true/\len*(zav P e).cells.length<=16777216/\(es.all λx=>x.solid && (x.cells.length == (zav P e).cells.length))=true)/\K (.list es)
  | _=>False
theorem uP {P:Program} {n:Nat} {o:Oper} {t:Env} {S:St} {T:TypeId} {len:Nat} {parts:Array (Nat×Operand)} {K:AV->St->Prop} (ho:o.op = .buildSlice T len parts)
    (h:vBL P T len (parts.toList.map (·.1)) (parts.toList.map λp=>ev t p.2) (λv=>K v S)):SOp P n o t S K:=by
  intro ro G a w Kc Q hr ht hk
  obtain ⟨r,hrf⟩:=hr.freshRegion
  unfold vBL at h
  split at h
  · rename_i e hd
    obtain ⟨hc,hK⟩:=h
    refine nP (K:=λv S'=>∃g,v = .sl (zav P e).cells.length r 0 g 0 len/\S'=S.set r 0 (.arr (zav P e).cells.length (parts.toList.map λp=>ev t p.2)) g) ho r 0 ?_ ro G a w Kc Q hr ht ?_
    · unfold d7;rw [hd];exact ⟨hc,λg=>⟨g,rfl,rfl⟩⟩
    · rintro v av S' G' w' ⟨g,rfl,rfl⟩ hle hr' hv
      have hset:(S.set r 0 (.arr (zav P e).cells.length (parts.toList.map λp=>ev t p.2)) g) r 0=some (.arr (zav P e).cells.length (parts.toList.map λp=>ev t p.2),g):=by simp [St.set]
      obtain ⟨G2,h1,h2,h3⟩:=Wk.freeze (v:=.sl (zav P e).cells.length r 0 g 0 len) hset G' w' v hr' hv
      have e1:frz r 0 g (zav P e).cells.length (parts.toList.map λp=>ev t p.2) (.sl (zav P e).cells.length r 0 g 0 len) = .list (parts.toList.map λp=>ev t p.2):=by
        have hl:=hc.2.1
        simp only [frz,zh,ui]
        rw [if_pos ⟨trivial,trivial,trivial,trivial,by omega⟩,List.drop_zero,<-hl,List.take_length]
      have e2:(S.set r 0 (.arr (zav P e).cells.length (parts.toList.map λp=>ev t p.2)) g).del r 0=S:=by
        funext r' k'
        simp only [St.del,St.set]
        by_cases hh:r'=r/\k'=0
        · rw [if_pos hh,hh.1,hh.2,hrf 0]
        · rw [if_neg hh,if_neg hh]
      rw [e1] at h3
      rw [e2] at h2
      exact hk v _ S G2 w' hK (hle.trans h1) h2 h3
  · exact h.elim
def vd (P:Program) (rg:Nat) (u:CR) (d:Option Nat) (o:Op) (e:Operand->AV) (S:St) (K:AV->St->Prop):Prop:=match o with
  | .call { callee:=.value f,args:=xs,argTypes:=_ }=>match e f with
    | .fn (.func g) fs caps=>(∀S',iD u.rd u.key S' S->Ctr P g (fs++(xs.toList.map e++caps)) S' (λv S''=>v=u.v/\S''=u.app S'))/\K u.v (u.app S)
    | _=>False
  | .buildSlice T len parts=>(match u.v with
    | .list _=>vBL P T len (parts.toList.map (·.1)) (parts.toList.map λp=>e p.2) (λv=>K v S)
    | _=>d7 P rg (d.getD 0) T len (parts.toList.map (·.1)) (parts.toList.map λp=>e p.2) S K)
  | _=>bif D8 o then vl P rg (d.getD 0) o e S K else vq P o e S (λv=>K v S)
def NF (F:(Operand->AV)->St->(AV->St->Prop)->Prop) (xs:Array Operand) (E:Eff) (e:Operand->AV) (S:St):Prop:=
  ∃(c:Prop) (v:Nat->AV) (ch:Chg),(ch.key=none\/ch.key=E.2)/\∀(e':Operand->AV) (S':St),(∀x∈xs,e' x=e x)->iD E.1 E.2 S' S->∀K,F e' S' K↔c/\∀g,K (v g) (ch.app g S')
def NFQ (F:(AV->Prop)->Prop):Prop:=∃(c:Prop) (v:AV),∀K,F K↔c/\K v
theorem ba:NFQ (λ_=>False):=⟨False,.junk,λ_=>by simp⟩
theorem cd (v:AV):NFQ (λK=>K v):=⟨True,v,λ_=>by simp⟩
theorem c8 {A:Prop} {F:(AV->Prop)->Prop} (h:NFQ F):NFQ (λK=>A/\F K):=by
  obtain ⟨c,v,h⟩:=h
  exact ⟨A/\c,v,λK=>by show A/\F K↔_;rw [h K,and_assoc]⟩
theorem A' {A:Prop} {F F':(AV->Prop)->Prop} (h:NFQ F) (h':NFQ F'):NFQ (λK=>(A->F K)/\(¬A->F' K)):=by
  obtain ⟨c,v,h⟩:=h
  obtain ⟨c',v',h'⟩:=h'
  by_cases ha:A
  · exact ⟨c,v,λK=>by simp [ha,h K]⟩
  · exact ⟨c',v',λK=>by simp [ha,h' K]⟩
theorem CG (op:BinOp) (k:IntKind) (m n:Int):NFQ (rU op k m n):=by
  show NFQ (λK=>rU op k m n K)
  cases op<;>simp only [rU]<;>repeat (first | exact ba | exact cd _ | refine c8 ?_)
theorem A7 (op:BinOp) (k:IntKind) (m n:Int):NFQ (po op k m n):=by
  show NFQ (λK=>po op k m n K)
  cases op<;>simp only [po]<;>repeat (first | exact ba | exact cd _ | refine c8 ?_)
theorem D2 (P:Program) (op:BinOp) (T:TypeId) (cs ds:List AV):NFQ (λK=>match d5 P T with
    | some (.many ks)=>match pI ks cs,pI ks ds with
      | some m,some n=>(match op with | .eql=>K (.bool (decide (m=n))) | .neq=>K (.bool (!decide (m=n))) | _=>False)
      | _,_=>False
    | _=>False):=by
  generalize d5 P T=o
  rcases o with _ | (k | ks)
  · exact ba
  · exact ba
  · simp only []
    generalize pI ks cs=a
    generalize pI ks ds=b
    cases a<;>cases b<;>first
      | exact ba
      | (cases op<;>first | exact cd _ | exact ba)
theorem D3 (P:Program) (op:BinOp) (T:TypeId) (x y:Operand) (a b:AV):NFQ (wb P op T x y a b):=by
  show NFQ (λK=>wb P op T x y a b K)
  cases a<;>cases b<;>simp only [wb]<;>first
    | exact ba
    | exact D2 ..
    | (cases op<;>repeat (first | exact ba | exact cd _ | exact CG .. | exact A7 .. | refine c8 ?_))
theorem FM (op:UnOp) (a:AV):NFQ (vUn op a):=by
  show NFQ (λK=>vUn op a K)
  cases op<;>cases a<;>simp only [vUn]<;>repeat (first | exact ba | exact cd _ | refine c8 ?_)
theorem CD (P:Program) (T:TypeId) (a:AV) (S:St):NFQ (iI P T a S):=by
  show NFQ (λK=>iI P T a S K)
  cases a with
  | ptr r k g i off=>
    simp only [iI]
    cases S r k with
    | none=>exact ba
    | some p=>
      obtain ⟨o,g'⟩:=p
      cases o<;>simp only []<;>repeat (first | exact ba | exact cd _ | refine c8 ?_)
  | iptr cs=>simp only [iI];exact c8 (cd _)
  | _=>exact ba
theorem yc (P:Program) (T:TypeId) (x i:AV):NFQ (gd P T x i):=by
  show NFQ (λK=>gd P T x i K)
  cases i<;>simp only [gd]<;>try exact ba
  cases td P T<;>simp only []<;>try exact ba
  all_goals (cases x<;>simp only []<;>repeat (first | exact ba | exact cd _ | refine c8 ?_))
theorem A8 (P:Program) (T:TypeId) (x i:AV):NFQ (lX P T x i):=by
  show NFQ (λK=>lX P T x i K)
  cases i<;>simp only [lX]<;>try exact ba
  cases x<;>simp only []<;>try exact ba
  all_goals (cases td P T<;>simp only []<;>repeat (first | exact ba | exact cd _ | refine c8 ?_))
theorem A6 (P:Program) (T:TypeId) (x:AV) (lo hi mx:Option AV):NFQ (jf P T x lo hi mx):=by
  show NFQ (λK=>jf P T x lo hi mx K)
  unfold jf
  cases td P T<;>cases mx<;>simp only []<;>try exact ba
  cases x<;>simp only []<;>try exact ba
  · rename_i es
    cases bnd lo 0<;>cases bnd hi es.length<;>simp only []<;>repeat (first | exact ba | exact cd _ | refine c8 ?_)
  · rename_i kk r k g off len
    cases bnd lo 0<;>cases bnd hi len<;>simp only []<;>repeat (first | exact ba | exact cd _ | refine c8 ?_)
theorem vg (P:Program) (T f:Nat) (x:AV):NFQ (ep P T f x):=by
  show NFQ (λK=>ep P T f x K)
  unfold ep
  cases td P T<;>simp only []<;>try exact ba
  cases x<;>simp only []<;>repeat (first | exact ba | exact cd _ | refine c8 ?_)
theorem A9 (P:Program) (T f:Nat) (x:AV):NFQ (mS P T f x):=by
  show NFQ (λK=>mS P T f x K)
  cases x<;>simp only [mS]<;>try exact ba
  cases td P T<;>simp only []<;>repeat (first | exact ba | exact cd _ | refine c8 ?_)
theorem A_ (P:Program) (T:Nat) (l:List (Nat×AV)):NFQ (kJ P T l):=by
  show NFQ (λK=>kJ P T l K)
  unfold kJ
  cases td P T<;>simp only []<;>repeat (first | exact ba | exact cd _ | refine c8 ?_)
theorem D1 (P:Program) (T:Nat) (x:AV):NFQ (ri P T x):=by
  show NFQ (λK=>ri P T x K)
  unfold ri
  cases td P T<;>simp only []<;>try exact ba
  cases x<;>simp only []<;>repeat (first | exact ba | exact cd _ | refine c8 ?_)
theorem CE (P:Program) (T:Nat) (x:AV) (S:St):NFQ (ir P T x S):=by
  show NFQ (λK=>ir P T x S K)
  by_cases hm:∃r k g,x = .map r k g
  · obtain ⟨r,k,g,rfl⟩:=hm
    simp only [ir]
    cases S r k with
    | none=>exact ba
    | some p=>
      obtain ⟨o,g'⟩:=p
      cases o<;>simp only []<;>try exact ba
      cases td P T<;>simp only []<;>repeat (first | exact ba | exact cd _ | refine c8 ?_)
  · have e:(λK=>ir P T x S K)=ri P T x:=by
      funext K
      cases x<;>first | rfl | exact absurd ⟨_,_,_,rfl⟩ hm
    rw [e]
    exact D1 P T x
theorem y5 (P:Program) (T:Nat) (ok:Bool) (x i:AV) (S:St):NFQ (gB P T ok x i S):=by
  show NFQ (λK=>gB P T ok x i S K)
  cases x with
  | map r k g=>
    simp only [gB]
    cases S r k with
    | none=>exact ba
    | some p=>
      obtain ⟨o,g'⟩:=p
      cases o with
      | arr kk es=>exact ba
      | lp r=>exact ba
      | mp sh n f=>
        simp only []
        generalize td P T=t'
        generalize iV sh i=m'
        cases t'<;>cases m'<;>first | exact ba | exact c8 (cd _)
  | _=>exact ba
theorem xj {P:Program} {T:TypeId} {a:AV} {S S':St} (h:∀r k g,a = .map r k g->S' r k=S r k):ir P T a S'=ir P T a S:=by
  funext K
  cases a with
  | map r k g=>have e:=h r k g rfl;simp only [ir,e]
  | _=>rfl
theorem uN {P:Program} {T:TypeId} {ok:Bool} {a i:AV} {S S':St} (h:∀r k g,a = .map r k g->S' r k=S r k):gB P T ok a i S'=gB P T ok a i S:=by
  funext K
  cases a with
  | map r k g=>have e:=h r k g rfl;simp only [gB,e]
  | _=>rfl
theorem y6 (P:Program) (T:Nat) (ok:Bool) (x:AV):NFQ (lD P T ok x):=by
  show NFQ (λK=>lD P T ok x K)
  unfold lD
  refine c8 ?_
  cases x<;>simp only []<;>first
    | (refine A' ?_ ?_
       · cases ok<;>exact cd _
       · repeat (first | exact ba | exact cd _ | refine c8 ?_))
    | repeat (first | exact ba | exact cd _ | refine c8 ?_)
theorem cx {F:(Operand->AV)->St->(AV->Prop)->Prop} {xs:Array Operand} {E:Eff} {e:Operand->AV} {S:St} (hc:∀e' S',(∀x∈xs,e' x=e x)->iD E.1 E.2 S' S->F e' S'=F e S) (h:NFQ (F e S)) :
    NF (λe S K=>F e S (λv=>K v S)) xs E e S:=by
  obtain ⟨c,v,h⟩:=h
  refine ⟨c,λ_=>v,none,.inl rfl,λe' S' he hS K=>?_⟩
  show F e' S' (λv=>K v S')↔_
  rw [hc e' S' he hS,h]
  simp [Chg.app]
theorem xi {P:Program} {T:TypeId} {a:AV} {S S':St} (h:∀r k g i off,a = .ptr r k g i off->S' r k=S r k):iI P T a S'=iI P T a S:=by
  funext K
  cases a<;>simp only [iI]
  rename_i r k g i off
  rw [h r k g i off rfl]
theorem yL {a:AV} {S S':St} (h:∀kk r k g off n,a = .sl kk r k g off n->S' r k=S r k):mQ S' a=mQ S a:=by
  cases a<;>simp only [mQ]
  rename_i kk r k g off n
  rw [h kk r k g off n rfl]
theorem fi {xs:Array Operand} {E:Eff} {e:Operand->AV} {S:St}:NF (λ_ _ _=>False) xs E e S:=⟨False,λ_=>.junk,none,.inl rfl,λ_ _ _ _ _=>by simp⟩
theorem CH {P:Program} {T:TypeId} {m i x:Operand} {xs:Array Operand} {e:Operand->AV} {S:St} (q1:m∈xs) (q2:i∈xs) (q3:x∈xs):NF (λe S K=>eE P T (e m) (e i) (e x) S K) xs ([],match e m with | .map r k _=>some (r,k) | _=>none) e S:=by
  have hop:∀e':Operand->AV,(∀y∈xs,e' y=e y)->e' m=e m/\e' i=e i/\e' x=e x:=λe' he=>⟨he m q1,he i q2,he x q3⟩
  have hno:(∀(S':St),(∀r k g,e m = .map r k g->S' r k=S r k)->∀K,¬eE P T (e m) (e i) (e x) S' K)->NF (λe S K=>eE P T (e m) (e i) (e x) S K) xs ([],match e m with | .map r k _=>some (r,k) | _=>none) e S:=
    λhn=>⟨False,λ_=>.junk,none,.inl rfl,λe' S' he hS' K=>by
      obtain ⟨a,b,c⟩:=hop e' he
      simp only [a,b,c,false_and,iff_false]
      refine hn S' (λr k g hm=>hS'.2 (r,k) ?_) K
      simp only [hm]⟩
  by_cases hm:∃r k g,e m = .map r k g
  · obtain ⟨r,k,g,hm⟩:=hm
    cases hS:S r k with
    | none=>exact hno λS' h K hh=>by simp only [hm,eE,h r k g hm,hS] at hh
    | some p=>
      obtain ⟨ob,g'⟩:=p
      cases ob with
      | arr kk es=>exact hno λS' h K hh=>by simp only [hm,eE,h r k g hm,hS] at hh
      | lp _=>exact hno λS' h K hh=>by simp only [hm,eE,h r k g hm,hS] at hh
      | mp sh n f=>
        cases hd:td P T with
        | map kt et=>
          cases hk:iV sh (e i) with
          | none=>exact hno λS' h K hh=>by simp only [hm,eE,h r k g hm,hS,hd,hk] at hh
          | some ns=>
            refine ⟨g'=g/\d5 P kt=some sh,λ_=>.junk,some (r,k,λ_=>(.mp sh (bif (f ns).isSome then n else n+1) (λq=>if q=ns then some (e x) else f q),g)),.inr (by simp [hm,Chg.key]),λe' S' he hS' K=>?_⟩
            obtain ⟨a,b,c⟩:=hop e' he
            have h1:=hS'.2 (r,k) (by simp [hm])
            simp only [a,b,c,eE,hm,h1,hS,hd,hk,Chg.app,forall_const]
        | _=>exact hno λS' h K hh=>by simp only [hm,eE,h r k g hm,hS,hd] at hh
  · refine hno λS' h K hh=>?_
    unfold eE at hh
    split at hh
    · rename_i r k g hq;exact hm ⟨r,k,g,hq⟩
    · exact hh
theorem EO (P:Program) (rg:Nat) (u:CR) (d:Option Nat) (o:Op) (e:Operand->AV) (S:St):NF (λe S K=>vd P rg u d o e S K) o.operands (fpo rg (d.getD 0) u o e) e S:=by
  cases o with
  | move x=>exact cx (F:=λe _ K=>K (e x)) (λe' S' he _=>by simp only [he x (by simp [Op.operands])]) (cd _)
  | assign x=>exact cx (F:=λe _ K=>K (e x)) (λe' S' he _=>by simp only [he x (by simp [Op.operands])]) (cd _)
  | pick c a b=>
    refine cx (F:=λe _ K=>match e c with | .bool v=>K (bif v then e a else e b) | _=>False) (λe' S' he _=>by simp only [he c (by simp [Op.operands]),he a (by simp [Op.operands]),he b (by simp [Op.operands])]) ?_
    cases e c<;>first | exact cd _ | exact ba
  | binOp op T x y T'=>exact cx (F:=λe _ K=>wb P op T x y (e x) (e y) K) (λe' S' he _=>by simp only [he x (by simp [Op.operands]),he y (by simp [Op.operands])]) (D3 ..)
  | unOp op T x=>exact cx (F:=λe _ K=>vUn op (e x) K) (λe' S' he _=>by simp only [he x (by simp [Op.operands])]) (FM ..)
  | convert s T x=>
    refine cx (F:=λe _ K=>match e x,td P T,td P s with | .int _ n,.int k,.int _=>K (.int k (k.wrap n)) | _,_,_=>False) (λe' S' he _=>by simp only [he x (by simp [Op.operands])]) ?_
    generalize e x=a
    generalize td P T=b
    generalize td P s=c
    cases a<;>try exact ba
    cases b<;>try exact ba
    cases c<;>first | exact cd _ | exact ba
  | makeInterface T x=>
    exact cx (F:=λe _ K=>(match td P T with | .iface | .other=>False | _=>True)/\K (.iface T (e x))) (λe' S' he _=>by simp only [he x (by simp [Op.operands])]) (c8 (cd _))
  | makeFunc fn first caps=>
    refine cx (F:=λe _ K=>K (.fn fn (first.toList.map e) (caps.toList.map e))) (λe' S' he _=>?_) (cd _)
    have h1:first.toList.map e'=first.toList.map e:=List.map_congr_left λx hx=>he x (by simp [Op.operands] at hx ⊢;exact .inl hx)
    have h2:caps.toList.map e'=caps.toList.map e:=List.map_congr_left λx hx=>he x (by simp [Op.operands] at hx ⊢;exact .inr hx)
    simp only [h1,h2]
  | build T parts=>
    refine cx (F:=λe _ K=>kJ P T (parts.toList.map λp=>(p.1,e p.2)) K) (λe' S' he _=>?_) (A_ ..)
    have h1:(parts.toList.map λp=>(p.1,e' p.2))=parts.toList.map λp=>(p.1,e p.2):=List.map_congr_left λp hp=>by rw [he p.2 (by simp [Op.operands] at hp ⊢;exact ⟨_,hp⟩)]
    simp only [h1]
  | load T x=>
    refine cx (F:=λe S K=>iI P T (e x) S K) (λe' S' he hS=>?_) (CD ..)
    have h1:=he x (by simp [Op.operands])
    simp only [h1]
    rw [xi (S:=S)]
    intro r k g i off hx
    have h2:=hS.1 (r,k)
    simp only [fpo,hx] at h2
    exact h2 (by simp)
  | lookup T x i ok=>
    refine cx (F:=λe S K=>gB P T ok (e x) (e i) S K) (λe' S' he hS=>?_) (y5 ..)
    have h1:=he x (by simp [Op.operands])
    have h2:=he i (by simp [Op.operands])
    simp only [h1,h2]
    rw [uN (S:=S)]
    intro r k g hx
    have h2:=hS.1 (r,k)
    simp only [fpo,hx] at h2
    exact h2 (by simp)
  | makeMap T r=>
    show NF (λe S K=>kI P rg (d.getD 0) T (r.map e) S K) _ _ _ _
    have hr:∀e':Operand->AV,(∀x∈(Op.makeMap T r).operands,e' x=e x)->r.map e'=r.map e:=λe' he=>by
      cases r with
      | none=>rfl
      | some y=>simp only [Option.map_some,he y (by simp [Op.operands])]
    unfold kI
    cases td P T with
    | map kt et=>
      simp only []
      cases d5 P kt with
      | none=>exact fi
      | some sh=>
        refine ⟨(match r.map e with | none=>True | some (.int _ _)=>True | _=>False),λg=>.map rg (d.getD 0) g,some (rg,d.getD 0,λg=>(.mp sh 0 (λ_=>none),g)),.inr rfl,λe' S' he hS' K=>?_⟩
        simp only [hr e' he,Chg.app]
        exact Iff.rfl
    | _=>exact fi
  | mapUpdate T m i x=>exact CH (by simp [Op.operands]) (by simp [Op.operands]) (by simp [Op.operands])
  | insert T m i x=>exact CH (by simp [Op.operands]) (by simp [Op.operands]) (by simp [Op.operands])
  | nilCheck x=>
    exact cx (F:=λe _ K=>(match e x with | .ptr .. | .iptr _=>True | .fn (.func _) _ _=>True | _=>False)/\K (e x)) (λe' S' he _=>by simp only [he x (by simp [Op.operands])]) (c8 (cd _))
  | fieldAddr T x f=>exact cx (F:=λe _ K=>ep P T f (e x) K) (λe' S' he _=>by simp only [he x (by simp [Op.operands])]) (vg ..)
  | field T x f=>exact cx (F:=λe _ K=>mS P T f (e x) K) (λe' S' he _=>by simp only [he x (by simp [Op.operands])]) (A9 ..)
  | indexAddr T x i=>exact cx (F:=λe _ K=>gd P T (e x) (e i) K) (λe' S' he _=>by simp only [he x (by simp [Op.operands]),he i (by simp [Op.operands])]) (yc ..)
  | index T x i=>exact cx (F:=λe _ K=>lX P T (e x) (e i) K) (λe' S' he _=>by simp only [he x (by simp [Op.operands]),he i (by simp [Op.operands])]) (A8 ..)
  | slice T x lo hi mx=>
    refine cx (F:=λe _ K=>jf P T (e x) (lo.map e) (hi.map e) (mx.map e) K) (λe' S' he _=>?_) (A6 ..)
    have h1:lo.map e'=lo.map e:=by cases lo with | none=>rfl | some y=>simp only [Option.map_some,he y (by simp [Op.operands])]
    have h2:hi.map e'=hi.map e:=by cases hi with | none=>rfl | some y=>simp only [Option.map_some,he y (by simp [Op.operands])]
    have h3:mx.map e'=mx.map e:=by cases mx with | none=>rfl | some y=>simp only [Option.map_some,he y (by simp [Op.operands])]
    simp only [h1,h2,h3,he x (by simp [Op.operands])]
  | extract x i=>
    refine cx (F:=λe _ K=>match e x with | .tuple vs=>i<vs.length/\K (vs.getD i .junk) | _=>False) (λe' S' he _=>by simp only [he x (by simp [Op.operands])]) ?_
    cases e x<;>first | exact c8 (cd _) | exact ba
  | typeAssert x a T ok=>exact cx (F:=λe _ K=>lD P T ok (e x) K) (λe' S' he _=>by simp only [he x (by simp [Op.operands])]) (y6 ..)
  | alloc T=>exact ⟨cX P T=true,λg=>.ptr rg (d.getD 0) g 0 0,some (rg,d.getD 0,λg=>(.arr (zav P T).cells.length [zav P T],g)),.inr rfl,λ_ _ _ _ _=>Iff.rfl⟩
  | box T x=>
    refine ⟨(e x).solid=true/\0<(e x).cells.length,λg=>.ptr rg (d.getD 0) g 0 0,some (rg,d.getD 0,λg=>(.arr (e x).cells.length [e x],g)),.inr rfl,λe' S' he _ K=>?_⟩
    show (((e' x).solid=true/\0<(e' x).cells.length)/\∀g,K (.ptr rg (d.getD 0) g 0 0) (S'.set rg (d.getD 0) (.arr (e' x).cells.length [e' x]) g))↔_
    rw [he x (by simp [Op.operands])]
    exact Iff.rfl
  | store T a x=>
    show NF (λe S K=>iH P T (e a) (e x) S K) _ _ _ _
    cases ha:e a with
    | ptr r k g i off=>
      cases hS:S r k with
      | none=>
        refine ⟨False,λ_=>.junk,none,.inl rfl,λe' S' he hS' K=>?_⟩
        have h1:=hS'.2 (r,k) (by simp [fpo,ha])
        simp only [he a (by simp [Op.operands]),iH,ha,h1,hS,false_and]
      | some p=>
        obtain ⟨ob,g'⟩:=p
        cases ob with
        | arr kk es=>
          refine ⟨g'=g/\i<es.length/\0<sz P T/\(e x).cells.length=sz P T/\off+sz P T<=kk/\fE (e x).cells=true,λ_=>.junk,some (r,k,λ_=>(.arr kk (es.set i (stv (es.getD i .junk) off (e x))),g)),.inr (by simp [fpo,ha,Chg.key]),λe' S' he hS' K=>?_⟩
          have h1:=hS'.2 (r,k) (by simp [fpo,ha])
          simp only [he a (by simp [Op.operands]),he x (by simp [Op.operands]),iH,ha,h1,hS,Chg.app,forall_const]
        | mp sh n m=>
          refine ⟨False,λ_=>.junk,none,.inl rfl,λe' S' he hS' K=>?_⟩
          have h1:=hS'.2 (r,k) (by simp [fpo,ha])
          simp only [he a (by simp [Op.operands]),iH,ha,h1,hS,false_and]
        | lp _=>
          refine ⟨False,λ_=>.junk,none,.inl rfl,λe' S' he hS' K=>?_⟩
          have h1:=hS'.2 (r,k) (by simp [fpo,ha])
          simp only [he a (by simp [Op.operands]),iH,ha,h1,hS,false_and]
    | _=>
      refine ⟨False,λ_=>.junk,none,.inl rfl,λe' S' he hS' K=>?_⟩
      simp only [he a (by simp [Op.operands]),iH,ha,false_and]
  | makeSlice T l c=>
    show NF (λe S K=>pZ P rg (d.getD 0) T (e l) (e c) S K) _ _ _ _
    unfold pZ
    cases hd:td P T with
    | slice el=>
      cases hl:e l with
      | int k1 n=>
        cases hc:e c with
        | int k2 m=>
          refine ⟨(0<=n/\n<=m/\(bts P el:Int)*m<=281474976710656/\m<=9223372036854775807)/\cX P el=true,λg=>.sl (zav P el).cells.length rg (d.getD 0) g 0 n.toNat,some (rg,d.getD 0,λg=>(.arr (zav P el).cells.length (List.replicate n.toNat (zav P el)),g)),.inr rfl,λe' S' he hS' K=>?_⟩
          simp only [he l (by simp [Op.operands]),he c (by simp [Op.operands]),hl,hc,Chg.app,and_assoc]
        | _=>exact ⟨False,λ_=>.junk,none,.inl rfl,λe' S' he hS' K=>by simp only [he l (by simp [Op.operands]),he c (by simp [Op.operands]),hl,hc,false_and]⟩
      | _=>exact ⟨False,λ_=>.junk,none,.inl rfl,λe' S' he hS' K=>by simp only [he l (by simp [Op.operands]),hl,false_and]⟩
    | _=>exact fi
  | buildSlice T len parts=>
    have hno:NF (λe S K=>d7 P rg (d.getD 0) T len (parts.toList.map (·.1)) (parts.toList.map λp=>e p.2) S K) (Op.buildSlice T len parts).operands ([],some (rg,d.getD 0)) e S:=by
      unfold d7
      cases hd:td P T with
      | slice el=>
        refine ⟨((parts.toList.map (·.1)) == List.range len)=true/\(parts.toList.map λp=>e p.2).length=len/\cX P el=true/\len*(zav P el).cells.length<=16777216/\((parts.toList.map λp=>e p.2).all λx=>x.solid && (x.cells.length == (zav P el).cells.length))=true,
          λg=>.sl (zav P el).cells.length rg (d.getD 0) g 0 len,some (rg,d.getD 0,λg=>(.arr (zav P el).cells.length (parts.toList.map λp=>e p.2),g)),.inr rfl,λe' S' he hS' K=>?_⟩
        have h1:(parts.toList.map λp=>e' p.2)=parts.toList.map λp=>e p.2:=List.map_congr_left λp hp=>he p.2 (by simp [Op.operands] at hp ⊢;exact ⟨_,hp⟩)
        simp only [h1,Chg.app]
      | _=>exact fi
    have hpl:NF (λe S K=>vBL P T len (parts.toList.map (·.1)) (parts.toList.map λp=>e p.2) (λv=>K v S)) (Op.buildSlice T len parts).operands ([],none) e S:=by
      refine cx (F:=λe _ K=>vBL P T len (parts.toList.map (·.1)) (parts.toList.map λp=>e p.2) K) (λe' S' he _=>?_) ?_
      · have h1:(parts.toList.map λp=>e' p.2)=parts.toList.map λp=>e p.2:=List.map_congr_left λp hp=>he p.2 (by simp [Op.operands] at hp ⊢;exact ⟨_,hp⟩)
        simp only [h1]
      · unfold vBL
        cases td P T<;>first | exact c8 (cd _) | exact ba
    obtain ⟨uv,rd,wr⟩:=u
    cases uv<;>first | exact hpl | exact hno
  | call c=>
    obtain ⟨callee,xs,ts⟩:=c
    cases callee with
    | invoke r m=>exact fi
    | value f=>
      show NF (λe S K=>match e f with
        | .fn (.func g) fs caps=>(∀S',iD u.rd u.key S' S->Ctr P g (fs++(xs.toList.map e++caps)) S' (λv S''=>v=u.v/\S''=u.app S'))/\K u.v (u.app S)
        | _=>False) _ _ _ _
      have hx:∀e':Operand->AV,(∀x∈Op.operands (.call { callee:=.value f,args:=xs,argTypes:=ts }),e' x=e x)->e' f=e f/\xs.toList.map e'=xs.toList.map e:=λe' he=>by
        refine ⟨he f (by simp [Op.operands,Call.operands]),List.map_congr_left λx hx=>he x ?_⟩
        simp only [Op.operands,Call.operands]
        simp at hx ⊢
        exact .inr hx
      generalize hf:e f=ef
      by_cases hq:∃g fs caps,ef = .fn (.func g) fs caps
      · obtain ⟨g,fs,caps,rfl⟩:=hq
        refine ⟨∀S',iD u.rd u.key S' S->Ctr P g (fs++(xs.toList.map e++caps)) S' (λv S''=>v=u.v/\S''=u.app S'),λ_=>u.v,u.wr.map (λx=>(x.1,x.2.1,λ_=>(x.2.2.1,x.2.2.2))),?_,λe' S' he hS' K=>?_⟩
        · right;show _=u.key;unfold CR.key Chg.key;cases u.wr<;>rfl
        · obtain ⟨h1,h2⟩:=hx e' he
          simp only [h1,h2,hf]
          have hA:∀X:St,iD u.rd u.key X S'↔iD u.rd u.key X S:=λX=>⟨λh=>h.trans hS',λh=>h.trans hS'.symm⟩
          have hB:∀g,Chg.app (u.wr.map (λx=>(x.1,x.2.1,λ_=>(x.2.2.1,x.2.2.2)))) g S'=u.app S':=λg=>by unfold CR.app Chg.app;cases u.wr<;>rfl
          simp only [hA,hB,forall_const]
      · refine ⟨False,λ_=>.junk,none,.inl rfl,λe' S' he hS' K=>?_⟩
        obtain ⟨h1,h2⟩:=hx e' he
        simp only [h1,hf,false_and,iff_false]
        split
        · rename_i g fs caps;exact λ_=>hq ⟨_,_,_,rfl⟩
        · simp
    | builtin b=>
      obtain ⟨l,rfl⟩:∃l:List Operand,xs=l.toArray:=⟨xs.toList,by simp⟩
      obtain ⟨ts,rfl⟩:∃l:List TypeId,ts=l.toArray:=⟨ts.toList,by simp⟩
      cases b with
      | append=>
        rcases l with _ | ⟨b,_ | ⟨x,_ | ⟨_,_⟩⟩⟩<;>try exact fi
        rcases ts with _ | ⟨T,_ | ⟨T',_ | ⟨_,_⟩⟩⟩<;>try exact fi
        show NF (λe S K=>T=T'/\dX P rg (d.getD 0) T (e b) (e x) S K) _ _ _ _
        have hE:fpo rg (d.getD 0) u (.call { callee:=.builtin .append,args:=[b,x].toArray,argTypes:=[T,T'].toArray }) e=(match e x with | .sl _ r k _ _ _=>[(r,k)] | _=>[],match e b with | .sl _ r k _ _ _=>some (r,k) | _=>some (rg,d.getD 0)):=rfl
        rw [hE]
        have hop:∀e':Operand->AV,(∀y∈Op.operands (.call { callee:=.builtin .append,args:=[b,x].toArray,argTypes:=[T,T'].toArray }),e' y=e y)->e' b=e b/\e' x=e x:=λe' he=>⟨he b (by simp [Op.operands,Call.operands]),he x (by simp [Op.operands,Call.operands])⟩
        have hno:(∀(e':Operand->AV) (S':St),(∀y∈Op.operands (.call { callee:=.builtin .append,args:=[b,x].toArray,argTypes:=[T,T'].toArray }),e' y=e y)->iD (match e x with | .sl _ r k _ _ _=>[(r,k)] | _=>[]) (match e b with | .sl _ r k _ _ _=>some (r,k) | _=>some (rg,d.getD 0)) S' S->∀K,¬(T=T'/\dX P rg (d.getD 0) T (e' b) (e' x) S' K))->
            NF (λe S K=>T=T'/\dX P rg (d.getD 0) T (e b) (e x) S K) (Op.operands (.call { callee:=.builtin .append,args:=[b,x].toArray,argTypes:=[T,T'].toArray })) (match e x with | .sl _ r k _ _ _=>[(r,k)] | _=>[],match e b with | .sl _ r k _ _ _=>some (r,k) | _=>some (rg,d.getD 0)) e S:=
          λh=>⟨False,λ_=>.junk,none,.inl rfl,λe' S' he hS' K=>by simp only [false_and,iff_false];exact h e' S' he hS' K⟩
        have hview:∀S',iD (match e x with | .sl _ r k _ _ _=>[(r,k)] | _=>[]) (match e b with | .sl _ r k _ _ _=>some (r,k) | _=>some (rg,d.getD 0)) S' S->mQ S' (e x)=mQ S (e x):=λS' hS'=>yL λkk r k g off n hx=>by
          have:=hS'.1 (r,k)
          simp only [hx] at this
          exact this (by simp)
        cases hd:td P T with
        | slice el=>
          cases hv:mQ S (e x) with
          | none=>
            exact hno λe' S' he hS' K h=>by
              obtain ⟨h1,h2⟩:=hop e' he
              simp only [dX,hd,h2,hview S' hS',hv] at h
              exact h.2
          | some ys=>
            cases hb:e b with
            | nil=>
              refine ⟨T=T'/\(cX P el=true/\(ys.all λx=>fE x.cells && (x.cells.length == (zav P el).cells.length))=true)/\ys.length*bts P el<=140737488355328/\ys.length<=9223372036854775807,
                λg=>.sl (zav P el).cells.length rg (d.getD 0) g 0 ys.length,some (rg,d.getD 0,λg=>(.arr (zav P el).cells.length ys,g)),.inr rfl,λe' S' he hS' K=>?_⟩
              obtain ⟨h1,h2⟩:=hop e' he
              rw [hb] at h1
              have h3:=hview S' (by rw [hb];exact hS')
              simp only [dX,hd,h2,h3,hv,h1,Chg.app,and_assoc]
            | sl kk r k' g off n=>
              cases hS:S r k' with
              | none=>
                exact hb▸hno λe' S' he hS' K h=>by
                  obtain ⟨h1,h2⟩:=hop e' he
                  have h4:=hS'.2 (r,k') (by simp only [hb])
                  simp only [dX,hd,h2,hview S' hS',hv,h1,hb,h4,hS] at h
                  exact h.2.2
              | some p=>
                obtain ⟨ob,g'⟩:=p
                cases ob with
                | mp sh a m=>
                  exact hb▸hno λe' S' he hS' K h=>by
                    obtain ⟨h1,h2⟩:=hop e' he
                    have h4:=hS'.2 (r,k') (by simp only [hb])
                    simp only [dX,hd,h2,hview S' hS',hv,h1,hb,h4,hS] at h
                    exact h.2.2
                | lp _=>
                  exact hb▸hno λe' S' he hS' K h=>by
                    obtain ⟨h1,h2⟩:=hop e' he
                    have h4:=hS'.2 (r,k') (by simp only [hb])
                    simp only [dX,hd,h2,hview S' hS',hv,h1,hb,h4,hS] at h
                    exact h.2.2
                | arr kk' es=>
                  refine ⟨T=T'/\(cX P el=true/\(ys.all λx=>fE x.cells && (x.cells.length == (zav P el).cells.length))=true)/\(g'=g/\off=0/\kk'=kk/\kk=(zav P el).cells.length/\n=es.length)/\((es.length+ys.length)*bts P el<=140737488355328/\es.length+ys.length<=9223372036854775807),
                    λg=>.sl kk r k' g 0 (es.length+ys.length),some (r,k',λg=>(.arr kk (es++ys),g)),.inr rfl,λe' S' he hS' K=>?_⟩
                  obtain ⟨h1,h2⟩:=hop e' he
                  rw [hb] at h1
                  have h3:=hview S' (by rw [hb];exact hS')
                  have h4:=hS'.2 (r,k') rfl
                  simp only [dX,hd,h2,h3,hv,h1,h4,hS,Chg.app,and_assoc]
            | _=>
              exact hb▸hno λe' S' he hS' K h=>by
                obtain ⟨h1,h2⟩:=hop e' he
                simp only [dX,hd,h2,hview S' hS',hv,h1,hb] at h
                exact h.2.2
        | _=>
          exact hno λe' S' he hS' K h=>by
            simp only [dX,hd] at h
            exact h.2
      | len=>
        rcases l with _ | ⟨x,_ | ⟨_,_⟩⟩<;>try exact fi
        rcases ts with _ | ⟨T,_ | ⟨_,_⟩⟩<;>try exact fi
        refine cx (F:=λe S K=>ir P T (e x) S K) (λe' S' he hS=>?_) (CE ..)
        have h1:=he x (by simp [Op.operands,Call.operands])
        simp only [h1]
        rw [xj (S:=S)]
        intro r k g hx
        have h2:=hS.1 (r,k)
        simp only [fpo,hx] at h2
        exact h2 (by simp)
      | max=>
        rcases l with _ | ⟨x,_ | ⟨y,_ | ⟨_,_⟩⟩⟩<;>try exact fi
        refine cx (F:=λe _ K=>(match e x,e y with | .int k m,.int _ n=>K (.int k (if m<n then n else m)) | _,_=>False)) (λe' S' he _=>by simp only [he x (by simp [Op.operands,Call.operands]),he y (by simp [Op.operands,Call.operands])]) ?_
        generalize e x=a
        generalize e y=b
        cases a<;>cases b<;>first | exact cd _ | exact ba
      | min=>
        rcases l with _ | ⟨x,_ | ⟨y,_ | ⟨z,_ | ⟨_,_⟩⟩⟩⟩<;>try exact fi
        · refine cx (F:=λe _ K=>(match e x,e y with | .int k m,.int _ n=>K (.int k (if n<m then n else m)) | _,_=>False)) (λe' S' he _=>by simp only [he x (by simp [Op.operands,Call.operands]),he y (by simp [Op.operands,Call.operands])]) ?_
          generalize e x=a
          generalize e y=b
          cases a<;>cases b<;>first | exact cd _ | exact ba
        · refine cx (F:=λe _ K=>(match e x,e y,e z with | .int k m,.int _ n,.int _ q=>K (.int k (if q<(if n<m then n else m) then q else (if n<m then n else m))) | _,_,_=>False)) (λe' S' he _=>by simp only [he x (by simp [Op.operands,Call.operands]),he y (by simp [Op.operands,Call.operands]),he z (by simp [Op.operands,Call.operands])]) ?_
          generalize e x=a
          generalize e y=b
          generalize e z=c
          cases a<;>try exact ba
          cases b<;>try exact ba
          cases c<;>first | exact cd _ | exact ba
      | _=>exact fi
  | _=>exact fi
end Go.Gg
namespace Go.Gg
abbrev WE:=Nat×Nat×GObj×Nat
def fS:List WE->St->St
  | [],S=>S
  | x :: m,S=>(fS m S).set x.1 x.2.1 x.2.2.1 x.2.2.2
abbrev oA:=List Key×List Key
abbrev Gen:=Nat->Nat
structure CR2 where
  v:Gen->AV
  rd:List Key
  wk:List Key
  wr:Gen->List WE
  pl:Bool
def cg (l:List Key) (S' S:St):Prop:=∀p∈l,S' p.1 p.2=S p.1 p.2
theorem cg.refl (l:List Key) (S:St):cg l S S:=λ_ _=>rfl
theorem cg.trans {l:List Key} {S S' S'':St} (h:cg l S S') (h':cg l S' S''):cg l S S'':=λp hp=>(h p hp).trans (h' p hp)
theorem cg.symm {l:List Key} {S S':St} (h:cg l S S'):cg l S' S:=λp hp=>(h p hp).symm
theorem B7 {S:St} {r k r' k' g g':Nat} {o o':GObj} (h:¬(r=r'/\k=k')):(S.set r k o g).set r' k' o' g'=(S.set r' k' o' g').set r k o g:=by
  funext x y
  simp only [St.set]
  by_cases h1:x=r'/\y=k'
  · rw [if_pos h1,if_neg (λh2=>h ⟨h2.1.symm.trans h1.1,h2.2.symm.trans h1.2⟩),if_pos h1]
  · rw [if_neg h1,if_neg h1]
theorem yF {x:WE}:∀ {m:List WE} {S:St},(∀y∈m,¬(x.1=y.1/\x.2.1=y.2.1))->fS m (S.set x.1 x.2.1 x.2.2.1 x.2.2.2)=(fS m S).set x.1 x.2.1 x.2.2.1 x.2.2.2
  | [],_,_=>rfl
  | y :: m,S,h=>by
    have h1:=h y (by simp)
    show (fS m (S.set x.1 x.2.1 x.2.2.1 x.2.2.2)).set y.1 y.2.1 y.2.2.1 y.2.2.2=((fS m S).set y.1 y.2.1 y.2.2.1 y.2.2.2).set x.1 x.2.1 x.2.2.1 x.2.2.2
    rw [yF (λz hz=>h z (by simp [hz])),B7 h1]
theorem v6 {b:List WE} {S:St}:∀ {a:List WE},(∀x∈a,∀y∈b,¬(x.1=y.1/\x.2.1=y.2.1))->fS b (fS a S)=fS a (fS b S)
  | [],_=>rfl
  | x :: a,h=>by
    show fS b ((fS a S).set x.1 x.2.1 x.2.2.1 x.2.2.2)=(fS a (fS b S)).set x.1 x.2.1 x.2.2.1 x.2.2.2
    rw [yF (λy hy=>h x (by simp) y hy),v6 (λz hz y hy=>h z (by simp [hz]) y hy)]
theorem ls {l:List Key} {S:St}:∀ {m:List WE},(∀x∈m,(x.1,x.2.1)∉l)->cg l (fS m S) S
  | [],_=>cg.refl l S
  | x :: m,h=>λp hp=>by
    show (if p.1=x.1/\p.2=x.2.1 then some (x.2.2.1,x.2.2.2) else fS m S p.1 p.2)=S p.1 p.2
    rw [if_neg (λhc=>h x (by simp) (by
      have:p=(x.1,x.2.1):=Prod.ext hc.1 hc.2
      rw [<-this];exact hp))]
    exact ls (λy hy=>h y (by simp [hy])) p hp
def jcr:CR:=⟨.junk,[],none⟩
def lcr:CR:=⟨.list [],[],none⟩
def yW (u:CR2):Op->Bool
  | .makeSlice ..=>u.pl
  | .call { callee:=.builtin .append,.. }=>u.pl
  | _=>false
def vPL (P:Program) (u:CR2) (d:Option Nat) (o:Op) (e:Operand->AV) (K:AV->Prop):Prop:=
  (∀r S,vd P r jcr d o e S (λv S'=>∃kk g es,v = .sl kk r (d.getD 0) g 0 es.length/\S'=S.set r (d.getD 0) (.arr kk es) g/\VW (.list es) (u.v (λ_=>0))))/\K (u.v (λ_=>0))
def sq (rg k:Nat) (u:CR2) (o:Op) (e:Operand->AV):oA:=match o with
  | .call { callee:=.value _,args:=_,argTypes:=_ }=>(u.rd,u.wk)
  | .buildSlice ..=>([],bif u.pl then [] else [(rg,k)])
  | _=>((fpo rg k jcr o e).1,(fpo rg k jcr o e).2.toList)
def mH (rg k:Nat) (u:CR2) (o:Op) (e:Operand->AV):oA:=bif yW u o then ([],[]) else sq rg k u o e
def uM (P:Program) (rg:Nat) (u:CR2) (d:Option Nat) (o:Op) (e:Operand->AV) (S:St) (K:AV->St->Prop):Prop:=match o with
  | .call { callee:=.value f,args:=xs,argTypes:=_ }=>match e f with
    | .fn (.func g) fs caps=>((∀γ,∀x∈u.wr γ,(x.1,x.2.1)∈u.wk)/\∀S',cg u.rd S' S->cg u.wk S' S->Ctr P g (fs++(xs.toList.map e++caps)) S' (λv S''=>∃γ,v=u.v γ/\S''=fS (u.wr γ) S'))/\∀γ,K (u.v γ) (fS (u.wr γ) S)
    | _=>False
  | .buildSlice T len parts=>vd P rg (bif u.pl then lcr else jcr) d (.buildSlice T len parts) e S K
  | o=>vd P rg jcr d o e S K
def vd2 (P:Program) (rg:Nat) (u:CR2) (d:Option Nat) (o:Op) (e:Operand->AV) (S:St) (K:AV->St->Prop):Prop:=bif yW u o then vPL P u d o e (λv=>K v S) else uM P rg u d o e S K
def NF2 (F:(Operand->AV)->St->(AV->St->Prop)->Prop) (xs:Array Operand) (E:oA) (e:Operand->AV) (S:St):Prop:=
  ∃(c:Prop) (v:Gen->AV) (ch:Gen->List WE),(c->∀γ,∀x∈ch γ,(x.1,x.2.1)∈E.2)/\∀(e':Operand->AV) (S':St),(∀x∈xs,e' x=e x)->cg E.1 S' S->cg E.2 S' S->∀K,F e' S' K↔c/\∀γ,K (v γ) (fS (ch γ) S')
theorem NF.to2 {F:(Operand->AV)->St->(AV->St->Prop)->Prop} {xs:Array Operand} {l:List Key} {w:Option Key} {e:Operand->AV} {S:St} (h:NF F xs (l,w) e S):NF2 F xs (l,w.toList) e S:=by
  obtain ⟨c,v,ch,hk,hF⟩:=h
  refine ⟨c,λγ=>v (γ 0),λγ=>match ch with | none=>[] | some (r,k,f)=>[(r,k,(f (γ 0)).1,(f (γ 0)).2)],λ_ γ x hx=>?_,λe' S' he h1 h2 K=>?_⟩
  · cases ch with
    | none=>simp at hx
    | some y=>
      obtain ⟨r,k,f⟩:=y
      obtain rfl:x=(r,k,(f (γ 0)).1,(f (γ 0)).2):=by simpa using hx
      rcases hk with hk | hk
      · cases hk
      · rw [<-(show some (r,k)=w from hk)];simp
  · rw [hF e' S' he ⟨h1,λp hp=>h2 p (show p∈w.toList by rw [show w=some p from hp];simp)⟩ K]
    refine and_congr_right λ_=>⟨λh γ=>?_,λh g=>?_⟩
    · have:=h (γ 0)
      cases ch<;>exact this
    · have:=h (λ_=>g)
      cases ch<;>exact this
theorem qs {P:Program} {rg:Nat} {u:CR2} {d:Option Nat} {o:Op} {e:Operand->AV} {S:St} {c:CR} (h1:∀e S K,uM P rg u d o e S K=vd P rg c d o e S K) (h2:sq rg (d.getD 0) u o e=((fpo rg (d.getD 0) c o e).1,(fpo rg (d.getD 0) c o e).2.toList)) :
    NF2 (λe S K=>uM P rg u d o e S K) o.operands (sq rg (d.getD 0) u o e) e S:=by
  have h3:(λ(e:Operand->AV) (S:St) (K:AV->St->Prop)=>uM P rg u d o e S K)=λe S K=>vd P rg c d o e S K:=by
    funext e S K;exact h1 e S K
  rw [h2,h3]
  exact NF.to2 (EO P rg c d o e S)
theorem D4 (P:Program) (rg:Nat) (u:CR2) (d:Option Nat) (o:Op) (e:Operand->AV) (S:St):NF2 (λe S K=>uM P rg u d o e S K) o.operands (sq rg (d.getD 0) u o e) e S:=by
  cases o with
  | buildSlice T len parts=>
    obtain ⟨uv,rd,wk,wr,pl⟩:=u
    cases pl
    · exact qs (c:=jcr) (λ_ _ _=>rfl) rfl
    · exact qs (c:=lcr) (λ_ _ _=>rfl) rfl
  | call c=>
    obtain ⟨callee,xs,ts⟩:=c
    cases callee with
    | invoke r m=>exact qs (c:=jcr) (λ_ _ _=>rfl) rfl
    | builtin b=>exact qs (c:=jcr) (λ_ _ _=>rfl) rfl
    | value f=>
      show NF2 (λe S K=>match e f with
        | .fn (.func g) fs caps=>((∀γ,∀x∈u.wr γ,(x.1,x.2.1)∈u.wk)/\∀S',cg u.rd S' S->cg u.wk S' S->Ctr P g (fs++(xs.toList.map e++caps)) S' (λv S''=>∃γ,v=u.v γ/\S''=fS (u.wr γ) S'))/\∀γ,K (u.v γ) (fS (u.wr γ) S)
        | _=>False) _ (u.rd,u.wk) _ _
      have hx:∀e':Operand->AV,(∀x∈Op.operands (.call { callee:=.value f,args:=xs,argTypes:=ts }),e' x=e x)->e' f=e f/\xs.toList.map e'=xs.toList.map e:=λe' he=>by
        refine ⟨he f (by simp [Op.operands,Call.operands]),List.map_congr_left λx hx=>he x ?_⟩
        simp only [Op.operands,Call.operands]
        simp at hx ⊢
        exact .inr hx
      generalize hf:e f=ef
      by_cases hq:∃g fs caps,ef = .fn (.func g) fs caps
      · obtain ⟨g,fs,caps,rfl⟩:=hq
        refine ⟨(∀γ,∀x∈u.wr γ,(x.1,x.2.1)∈u.wk)/\∀S',cg u.rd S' S->cg u.wk S' S->Ctr P g (fs++(xs.toList.map e++caps)) S' (λv S''=>∃γ,v=u.v γ/\S''=fS (u.wr γ) S'),u.v,u.wr,λhc=>hc.1,λe' S' he h1' h2' K=>?_⟩
        obtain ⟨h1,h2⟩:=hx e' he
        simp only [h1,h2,hf]
        have hA:∀X:St,cg u.rd X S'↔cg u.rd X S:=λX=>⟨λh=>h.trans h1',λh=>h.trans h1'.symm⟩
        have hB:∀X:St,cg u.wk X S'↔cg u.wk X S:=λX=>⟨λh=>h.trans h2',λh=>h.trans h2'.symm⟩
        simp only [hA,hB]
      · refine ⟨False,λ_=>.junk,λ_=>[],λh=>h.elim,λe' S' he h1' h2' K=>?_⟩
        obtain ⟨h1,h2⟩:=hx e' he
        simp only [h1,hf,false_and,iff_false]
        split
        · rename_i g fs caps;exact λ_=>hq ⟨_,_,_,rfl⟩
        · simp
  | _=>exact qs (c:=jcr) (λ_ _ _=>rfl) rfl
theorem FN (P:Program) (rg:Nat) (u:CR2) (d:Option Nat) (o:Op) (e:Operand->AV) (S:St):NF2 (λe S K=>vd2 P rg u d o e S K) o.operands (mH rg (d.getD 0) u o e) e S:=by
  cases hp:yW u o with
  | false=>
    have:=D4 P rg u d o e S
    simpa only [vd2,mH,hp,cond_false] using this
  | true=>
    simp only [vd2,mH,hp,cond_true]
    refine ⟨∀r S,vd P r jcr d o e S (λv S'=>∃kk g es,v = .sl kk r (d.getD 0) g 0 es.length/\S'=S.set r (d.getD 0) (.arr kk es) g/\VW (.list es) (u.v (λ_=>0))),λ_=>u.v (λ_=>0),λ_=>[],λ_ _ x hx=>by simp at hx,λe' S' he _ _ K=>?_⟩
    have hc:∀r S K,vd P r jcr d o e' S K↔vd P r jcr d o e S K:=λr S K=>by
      obtain ⟨c,v,ch,_,hF⟩:=EO P r jcr d o e S
      exact (hF e' S he (iD.refl _ _ S) K).trans (hF e S (λ_ _=>rfl) (iD.refl _ _ S) K).symm
    refine and_congr ⟨λh r S=>(hc r S _).1 (h r S),λh r S=>(hc r S _).2 (h r S)⟩ ⟨λh _=>h,λh=>h (λ_=>0)⟩
theorem Fu {P:Program} {n:Nat} {u:CR2} {o:Oper} {t:Env} {S:St} {K:AV->St->Prop} (hv:∀r K,vd P r jcr o.dst o.op (ev t) S K->SOp P n o t S K) (h:vPL P u o.dst o.op (ev t) (λv=>K v S)):SOp P n o t S K:=by
  intro ro G a w Kc Q hr ht hk
  obtain ⟨r,hrf⟩:=hr.freshRegion
  obtain ⟨hc,hK⟩:=h
  refine hv r _ (hc r S) ro G a w Kc Q hr ht ?_
  rintro v av S' G' w' ⟨kk,g,es,rfl,rfl,hw⟩ hle hr' hav
  have hset:(S.set r (o.dst.getD 0) (.arr kk es) g) r (o.dst.getD 0)=some (.arr kk es,g):=by simp [St.set]
  obtain ⟨G2,h1,h2,h3⟩:=Wk.freeze (v:=.sl kk r (o.dst.getD 0) g 0 es.length) hset G' w' v hr' hav
  have e1:frz r (o.dst.getD 0) g kk es (.sl kk r (o.dst.getD 0) g 0 es.length) = .list es:=by
    simp only [frz,zh,ui]
    rw [if_pos ⟨trivial,trivial,trivial,trivial,by omega⟩,List.drop_zero,List.take_length]
  have e2:(S.set r (o.dst.getD 0) (.arr kk es) g).del r (o.dst.getD 0)=S:=by
    funext r' k'
    simp only [St.del,St.set]
    by_cases hh:r'=r/\k'=o.dst.getD 0
    · rw [if_pos hh,hh.1,hh.2,hrf _]
    · rw [if_neg hh,if_neg hh]
  rw [e1] at h3
  rw [e2] at h2
  exact hk v _ S G2 w' hK (hle.trans h1) h2 (hw G2 v h3)
end Go.Gg
namespace Go.Gg
theorem Bh {rg k:Nat} {u:CR} {o:Op} {e e':Operand->AV} (h:∀x∈o.operands,e' x=e x):fpo rg k u o e'=fpo rg k u o e:=by
  cases o with
  | load T x=>simp only [fpo,h x (by simp [Op.operands])]
  | store T a x=>simp only [fpo,h a (by simp [Op.operands])]
  | lookup T x i ok=>simp only [fpo,h x (by simp [Op.operands])]
  | mapUpdate T m i x=>simp only [fpo,h m (by simp [Op.operands])]
  | insert T m i x=>simp only [fpo,h m (by simp [Op.operands])]
  | call c=>
    obtain ⟨callee,xs,ts⟩:=c
    cases callee with
    | builtin b=>
      obtain ⟨l,rfl⟩:∃l:List Operand,xs=l.toArray:=⟨xs.toList,by simp⟩
      cases b with
      | append=>
        rcases l with _ | ⟨b,_ | ⟨x,_ | ⟨_,_⟩⟩⟩<;>try rfl
        simp only [fpo,h b (by simp [Op.operands,Call.operands]),h x (by simp [Op.operands,Call.operands])]
      | len=>
        rcases l with _ | ⟨x,_ | ⟨_,_⟩⟩<;>try rfl
        simp only [fpo,h x (by simp [Op.operands,Call.operands])]
      | _=>rfl
    | _=>rfl
  | _=>rfl
theorem yr {rg k:Nat} {u:CR2} {o:Op} {e e':Operand->AV} (h:∀x∈o.operands,e' x=e x):sq rg k u o e'=sq rg k u o e:=by
  have h1:=Bh (rg:=rg) (k:=k) (u:=jcr) h
  cases o with
  | buildSlice=>rfl
  | call c=>
    obtain ⟨callee,xs,ts⟩:=c
    cases callee with
    | value f=>rfl
    | _=>simp only [sq,h1]
  | _=>simp only [sq,h1]
theorem zi {rg k:Nat} {u:CR2} {o:Op} {e e':Operand->AV} (h:∀x∈o.operands,e' x=e x):mH rg k u o e'=mH rg k u o e:=by
  unfold mH
  rw [yr h]
def vdG (P:Program) (rg:Nat) (us:Nat->CR2) (ops:List Oper) (j:Nat) (o:Oper) (t:Env) (S:St) (C:Env->St->Prop):Prop:=
  match o.guard with
  | none=>vd2 P rg (us j) o.dst o.op (ev t) S (λv S'=>C (cY t o.dst v) S')
  | some (g,want)=>match (ops[g]?).bind (·.dst) with
    | some d=>match t d with
      | .bool b=>if b=want then vd2 P rg (us j) o.dst o.op (ev t) S (λv S'=>C (cY t o.dst v) S') else C (cY t o.dst (.tuple [])) S
      | .tuple []=>C (cY t o.dst (.tuple [])) S
      | _=>False
    | none=>False
def fpG (rg:Nat) (us:Nat->CR2) (ops:List Oper) (j:Nat) (o:Oper) (t:Env):oA:=
  match o.guard with
  | none=>mH rg (o.dst.getD 0) (us j) o.op (ev t)
  | some (g,want)=>match (ops[g]?).bind (·.dst) with
    | some d=>match t d with
      | .bool b=>if b=want then mH rg (o.dst.getD 0) (us j) o.op (ev t) else ([],[])
      | _=>([],[])
    | none=>([],[])
theorem um {ops:List Oper} {o:Oper} {t t':Env} (h:∀d∈o.looksAt ops.toArray,t' d=t d):∀x∈o.op.operands,ev t' x=ev t x:=by
  intro x hx
  cases x with
  | tmp i=>exact h i (List.mem_append_left _ (List.mem_filterMap.2 ⟨.tmp i,by simpa using hx,rfl⟩))
  | _=>rfl
theorem sm {ops:List Oper} {o:Oper} {t t':Env} (h:∀d∈o.looksAt ops.toArray,t' d=t d) {g d:Nat} {want:Bool} (hg:o.guard=some (g,want)) (hd:(ops[g]?).bind (·.dst)=some d):t' d=t d:=
  h d (List.mem_append_right _ (by simp [hg,hd]))
theorem rH {rg:Nat} {us:Nat->CR2} {ops:List Oper} {j:Nat} {o:Oper} {t t':Env} (h:∀d∈o.looksAt ops.toArray,t' d=t d):fpG rg us ops j o t'=fpG rg us ops j o t:=by
  unfold fpG
  rw [zi (um h)]
  cases hg:o.guard with
  | none=>rfl
  | some gw=>
    obtain ⟨g,want⟩:=gw
    simp only []
    split
    · rename_i d hd;rw [sm h hg hd]
    · rfl
theorem qt (P:Program) (rg:Nat) (us:Nat->CR2) (ops:List Oper) (j:Nat) (o:Oper) (t:Env) (S:St) :
    ∃(c:Prop) (v:Gen->AV) (ch:Gen->List WE),(c->∀γ,∀x∈ch γ,(x.1,x.2.1)∈(fpG rg us ops j o t).2)/\∀(t':Env) (S':St),(∀d∈o.looksAt ops.toArray,t' d=t d)->
      cg (fpG rg us ops j o t).1 S' S->cg (fpG rg us ops j o t).2 S' S->∀C,vdG P rg us ops j o t' S' C↔c/\∀γ,C (cY t' o.dst (v γ)) (fS (ch γ) S'):=by
  obtain ⟨c,v,ch,h1,h2⟩:=FN P rg (us j) o.dst o.op (ev t) S
  unfold fpG vdG
  cases hg:o.guard with
  | none=>exact ⟨c,v,ch,h1,λt' S' ht hS hS2 C=>h2 (ev t') S' (um ht) hS hS2 _⟩
  | some gw=>
    obtain ⟨g,want⟩:=gw
    simp only []
    cases hd:(ops[g]?).bind (·.dst) with
    | none=>exact ⟨False,v,λ_=>[],λh=>h.elim,λ_ _ _ _ _=>by simp⟩
    | some d=>
      simp only []
      have hgd:∀t':Env,(∀d∈o.looksAt ops.toArray,t' d=t d)->t' d=t d:=λt' ht=>sm ht hg hd
      cases htd:t d with
      | bool b=>
        by_cases hb:b=want
        · refine ⟨c,v,ch,by simp only [if_pos hb];exact h1,λt' S' ht hS hS2 C=>?_⟩
          simp only [if_pos hb] at hS hS2
          simp only [hgd t' ht,htd,if_pos hb]
          exact h2 (ev t') S' (um ht) hS hS2 _
        · refine ⟨True,λ_=>.tuple [],λ_=>[],λ_ γ x hx=>by simp at hx,λt' S' ht hS _ C=>?_⟩
          simp only [hgd t' ht,htd,if_neg hb,fS,true_and,forall_const]
      | tuple vs=>
        cases vs with
        | nil=>exact ⟨True,λ_=>.tuple [],λ_=>[],λ_ γ x hx=>by simp at hx,λt' S' ht hS _ C=>by simp only [hgd t' ht,htd,fS,true_and,forall_const]⟩
        | cons=>exact ⟨False,v,λ_=>[],λh=>h.elim,λt' S' ht _ _ C=>by simp only [hgd t' ht,htd,false_and]⟩
      | _=>exact ⟨False,v,λ_=>[],λh=>h.elim,λt' S' ht _ _ C=>by simp only [hgd t' ht,htd,false_and]⟩
theorem pX {P:Program} {rg:Nat} {us:Nat->CR2} {ops:List Oper} {j:Nat} {o:Oper} {t:Env} {S:St} {C C':Env->St->Prop} (h:vdG P rg us ops j o t S C) (hC:∀t S,C t S->C' t S):vdG P rg us ops j o t S C':=by
  obtain ⟨c,v,ch,_,h2⟩:=qt P rg us ops j o t S
  have h3:=h2 t S (λ_ _=>rfl) (cg.refl _ S) (cg.refl _ S)
  exact (h3 C').2 ⟨((h3 C).1 h).1,λg=>hC _ _ (((h3 C).1 h).2 g)⟩
def t4 (ops:List Oper) (i j:Nat):Bool:=((Region.before ops.toArray).getD j 0).testBit i
def aM (a b:oA):Prop:=(∀x∈a.2,x∉b.1/\x∉b.2)/\∀y∈b.2,y∉a.1
abbrev Log:=List (Nat×oA)
def cf (ops:List Oper) (pend:Log) (j:Nat) (E:oA):Prop:=∀p∈pend,t4 ops p.1 j=true\/aM p.2 E
def Aw (ops:List Oper) (M:Array Nat) (j:Nat):Bool:=
  match ops[j]? with
  | none=>true
  | some o=>(o.after.all λe=>!Region.binds .any e || decide (e.on<j)) &&
      (List.range ops.length).all λi=>(!(M.getD j 0).testBit i || o.after.any λe=>Region.binds .any e && (e.on == i || (M.getD e.on 0).testBit i)) &&
        (i == j || (M.getD j 0).testBit i || (M.getD i 0).testBit j || match ops[i]? with | some oi=>oi.apart ops.toArray o | none=>true)
def js (n:Nat) (ops:List Oper):Bool:=
  (ops.all λo=>match o.dst with | some d=>decide (d<n) | none=>true) && (List.range ops.length).all (Aw ops (Region.before ops.toArray))
theorem zn {n:Nat} {ops:List Oper} (h:js n ops=true) {o:Oper} (ho:o∈ops) {d:Nat} (hd:o.dst=some d):d<n:=by
  simp only [js,Bool.and_eq_true,List.all_eq_true] at h
  have:=h.1 o ho
  simpa [hd] using this
theorem mI {n:Nat} {ops:List Oper} (h:js n ops=true) {j:Nat} {o:Oper} (ho:ops[j]? = some o) :
    (∀e∈o.after,Region.binds .any e=true->e.on<j)/\∀i,i<ops.length->(t4 ops i j=true->∃e∈o.after,Region.binds .any e=true/\(e.on=i\/t4 ops i e.on=true))/\
      (i=j\/t4 ops i j=true\/t4 ops j i=true\/∀oi,ops[i]? = some oi->oi.apart ops.toArray o=true):=by
  simp only [js,Bool.and_eq_true,List.all_eq_true,List.mem_range] at h
  have hj:j<ops.length:=(List.getElem?_eq_some_iff.1 ho).1
  have h1:=h.2 j hj
  simp only [Aw,ho,Bool.and_eq_true,Array.all_eq_true_iff_forall_mem,List.all_eq_true,List.mem_range,Bool.or_eq_true,Bool.not_eq_true',decide_eq_true_eq] at h1
  refine ⟨λe he hb=>(h1.1 e he).resolve_left (by simp [hb]),λi hi=>?_⟩
  obtain ⟨h2,h3⟩:=h1.2 i hi
  refine ⟨λhij=>?_,?_⟩
  · have hij':((Region.before ops.toArray).getD j 0).testBit i=true:=hij
    have:=h2.resolve_left (λhf=>by rw [hij'] at hf;cases hf)
    obtain ⟨e,he,hb⟩:=Array.any_eq_true'.1 this
    simp only [Bool.and_eq_true,Bool.or_eq_true,beq_iff_eq] at hb
    exact ⟨e,he,hb.1,hb.2⟩
  · rcases h3 with ((h3 | h3) | h3) | h3
    · exact .inl (by simpa using h3)
    · exact .inr (.inl h3)
    · exact .inr (.inr (.inl h3))
    · refine .inr (.inr (.inr λoi hoi=>?_))
      rw [hoi] at h3
      exact h3
def DC (ops:List Oper) (listed:Array Bool):Prop:=∀j,listed.getD j false=true->∀i,i<ops.length->t4 ops i j=true->listed.getD i false=true
theorem mo {listed:Array Bool} {i:Nat} (h:listed.getD i true=false):listed.getD i false=false:=by
  rcases Nat.lt_or_ge i listed.size with h' | h'
  · simp [h'] at h ⊢;exact h
  · simp [Array.getElem?_eq_none h'] at h
theorem tP {n:Nat} {ops:List Oper} (hok:js n ops=true) {listed:Array Bool} (hdc:DC ops listed) {j:Nat} (hj:j∈Region.ready .any ops.toArray listed):∀i,i<ops.length->t4 ops i j=true->listed.getD i false=true:=by
  obtain ⟨h0,o,ho,hall⟩:=mem_ready.1 hj
  intro i hi hij
  have ho':ops[j]? = some o:=by simpa using ho
  obtain ⟨e,he,hb,h⟩:=((mI hok ho').2 i hi).1 hij
  rcases h with h | h
  · subst h;exact hall e he hb
  · exact hdc e.on (hall e he hb) i hi h
theorem F1 {n:Nat} {ops:List Oper} (hok:js n ops=true) {listed:Array Bool} (hdc:DC ops listed) {j:Nat} (hj:j∈Region.ready .any ops.toArray listed):DC ops (listed.setIfInBounds j true):=by
  intro k hk i hi hik
  by_cases hkj:j=k
  · subst hkj;exact getD_set_true (tP hok hdc hj i hi hik)
  · rw [getD_set_ne false hkj] at hk
    exact getD_set_true (hdc k hk i hi hik)
def AD (P:Program) (rg:Nat) (us:Nat->CR2) (ops:List Oper) (K:Env->St->Prop) (pend:Log):Nat->Array Bool->Env->St->Prop
  | 0,listed,t,S=>Region.ready .any ops.toArray listed=[]/\K t S
  | fuel+1,listed,t,S=>(Region.ready .any ops.toArray listed=[]->K t S)/\∀j o,ops[j]? = some o->j∈Region.ready .any ops.toArray listed->
      cf ops pend j (fpG rg us ops j o t)/\vdG P rg us ops j o t S (λt' S'=>AD P rg us ops K pend fuel (listed.setIfInBounds j true) t' S')
section
variable {P:Program} {rg:Nat} {us:Nat->CR2} {ops:List Oper} {K:Env->St->Prop}
theorem w_ {p:Nat×oA} {pend:Log}:∀(fuel:Nat) (listed:Array Bool) (t:Env) (S:St),AD P rg us ops K (p :: pend) fuel listed t S->AD P rg us ops K pend fuel listed t S
  | 0,_,_,_,h=>h
  | fuel+1,_,_,_,h=>⟨h.1,λj o ho hj=>⟨λq hq=>(h.2 j o ho hj).1 q (List.mem_cons_of_mem _ hq),pX (h.2 j o ho hj).2 (λt S=>w_ fuel _ t S)⟩⟩
theorem zE {t:Env} {d:Option Nat} {v:AV} {s:Nat} (h:∀e,d=some e->s≠e):cY t d v s=t s:=by
  cases d with
  | none=>rfl
  | some e=>simp only [cY,upd,if_neg (h e rfl)]
theorem AJ {t:Env} {d e:Option Nat} {v u:AV} (h:∀x,d=some x->e≠some x):cY (cY t d v) e u=cY (cY t e u) d v:=by
  cases d with
  | none=>cases e<;>rfl
  | some d=>
    cases e with
    | none=>rfl
    | some e=>
      have hne:d≠e:=λhe=>h d rfl (by rw [he])
      funext k
      simp only [cY,upd]
      by_cases h1:k=e
      · subst h1;rw [if_pos rfl,if_neg (λh=>hne h.symm),if_pos rfl]
      · rw [if_neg h1,if_neg h1]
theorem Dp {n:Nat} (hok:js n ops=true) {i:Nat} {oi:Oper} (hoi:ops[i]? = some oi) {E:oA}:∀(fuel:Nat) (pend:Log) (listed:Array Bool) (t:Env) (S:St),DC ops listed->i∈Region.ready .any ops.toArray listed->
    E=fpG rg us ops i oi t->cf ops pend i E->vdG P rg us ops i oi t S (λt' S'=>AD P rg us ops K ((i,E) :: pend) fuel (listed.setIfInBounds i true) t' S')->AD P rg us ops K pend (fuel+1) listed t S:=by
  intro fuel
  induction fuel with
  | zero=>
    intro pend listed t S hdc hi hE hcf H
    refine ⟨λh=>(by rw [h] at hi;cases hi),λj oj hoj hj=>?_⟩
    by_cases hji:j=i
    · subst hji
      obtain rfl:oi=oj:=by rw [hoi] at hoj;exact Option.some.inj hoj
      exact ⟨hE▸hcf,pX H (λt S=>w_ _ _ t S)⟩
    · have:=ready_mono hj hji
      obtain ⟨c,v,ch,_,h2⟩:=qt P rg us ops i oi t S
      have h3:=((h2 t S (λ_ _=>rfl) (cg.refl _ S) (cg.refl _ S) _).1 H).2 (λ_=>0)
      rw [h3.1] at this
      cases this
  | succ fuel ih=>
    intro pend listed t S hdc hi hE hcf H
    refine ⟨λh=>(by rw [h] at hi;cases hi),λj oj hoj hj=>?_⟩
    by_cases hji:j=i
    · subst hji
      obtain rfl:oi=oj:=by rw [hoi] at hoj;exact Option.some.inj hoj
      exact ⟨hE▸hcf,pX H (λt S=>w_ _ _ t S)⟩
    · have hin:i<ops.length:=(List.getElem?_eq_some_iff.1 hoi).1
      have hjn:j<ops.length:=(List.getElem?_eq_some_iff.1 hoj).1
      have hiu:=mo (mem_ready.1 hi).1
      have hju:=mo (mem_ready.1 hj).1
      have hij:¬t4 ops i j=true:=λh=>by have:=tP hok hdc hj i hin h;rw [hiu] at this;cases this
      have hjiO:¬t4 ops j i=true:=λh=>by have:=tP hok hdc hi j hjn h;rw [hju] at this;cases this
      have hap:oi.apart ops.toArray oj=true:=by
        rcases ((mI hok hoj).2 i hin).2 with h | h | h | h
        · exact absurd h.symm hji
        · exact absurd h hij
        · exact absurd h hjiO
        · exact h oi hoi
      obtain ⟨ap1,ap2,ap3⟩:=Oper.apart_spec hap
      obtain ⟨ci,vi,ei,ki,hi2⟩:=qt P rg us ops i oi t S
      obtain ⟨cj,vj,ej,kj,hj2⟩:=qt P rg us ops j oj t S
      have Hi:=(hi2 t S (λ_ _=>rfl) (cg.refl _ S) (cg.refl _ S) _).1 H
      have ti:∀v,∀d∈oj.looksAt ops.toArray,cY t oi.dst v d=t d:=λv d hd=>zE (λe he hde=>ap1 e he (hde▸hd))
      have tj:∀v,∀d∈oi.looksAt ops.toArray,cY t oj.dst v d=t d:=λv d hd=>zE (λe he hde=>ap3 e he (hde▸hd))
      have hAE:aM E (fpG rg us ops j oj t):=by
        have h1:=((Hi.2 (λ_=>0)).2 j oj hoj (ready_mono hj hji)).1 (i,E) (by simp)
        rw [rH (ti (vi (λ_=>0)))] at h1
        exact h1.resolve_left hij
      rw [<-hE] at ki hi2
      have ki:=ki Hi.1
      have hcj:cf ops pend j (fpG rg us ops j oj t):=λp hp=>by
        have h1:=((Hi.2 (λ_=>0)).2 j oj hoj (ready_mono hj hji)).1 p (List.mem_cons_of_mem _ hp)
        rwa [rH (ti (vi (λ_=>0)))] at h1
      have Hj:∀g,cj/\∀h,AD P rg us ops K ((i,E) :: pend) fuel ((listed.setIfInBounds i true).setIfInBounds j true) (cY (cY t oi.dst (vi g)) oj.dst (vj h)) (fS (ej h) (fS (ei g) S)):=λg=>
        (hj2 _ _ (ti (vi g)) (ls λx hx=>(hAE.1 _ (ki g x hx)).1) (ls λx hx=>(hAE.1 _ (ki g x hx)).2) _).1 ((Hi.2 g).2 j oj hoj (ready_mono hj hji)).2
      have kj:=kj (Hj (λ_=>0)).1
      refine ⟨hcj,(hj2 t S (λ_ _=>rfl) (cg.refl _ S) (cg.refl _ S) _).2 ⟨(Hj (λ_=>0)).1,λh=>?_⟩⟩
      refine ih pend (listed.setIfInBounds j true) _ _ (F1 hok hdc hj) (ready_mono hi (Ne.symm hji)) (hE.trans (rH (tj (vj h))).symm) hcf ?_
      refine (hi2 _ _ (tj (vj h)) (ls λx hx=>hAE.2 _ (kj h x hx)) (ls λx hx hE2=>(hAE.1 _ hE2).2 (kj h x hx)) _).2 ⟨Hi.1,λg=>?_⟩
      have:=(Hj g).2 h
      rw [Array.setIfInBounds_comm _ _ (Ne.symm hji),AJ ap2,v6 (λx hx y hy hc=>(hAE.1 _ (ki g x hx)).2 (by rw [hc.1,hc.2];exact kj h y hy))] at this
      exact this
end
end Go.Gg
namespace Go.Gg
def lg (j:Nat) (E:oA) (log:Log):Log:=match E with | ([],[])=>log | E=>(j,E) :: log
def vdT (P:Program) (rg:Nat) (us:Nat->CR2) (ops:List Oper):List Oper->Nat->Log->Env->St->(Env->St->Prop)->Prop
  | [],_,_,t,S,K=>K t S
  | o :: rest,j,log,t,S,K=>match o.guard with
    | none=>cf ops log j (mH rg (o.dst.getD 0) (us j) o.op (ev t))/\vd2 P rg (us j) o.dst o.op (ev t) S (λv S'=>vdT P rg us ops rest (j+1) (lg j (mH rg (o.dst.getD 0) (us j) o.op (ev t)) log) (cY t o.dst v) S' K)
    | some (g,want)=>match (ops[g]?).bind (·.dst) with
      | some d=>match t d with
        | .bool b=>(b=want->cf ops log j (mH rg (o.dst.getD 0) (us j) o.op (ev (upd t d (.bool want))))/\vd2 P rg (us j) o.dst o.op (ev (upd t d (.bool want))) S
              (λv S'=>vdT P rg us ops rest (j+1) (lg j (mH rg (o.dst.getD 0) (us j) o.op (ev (upd t d (.bool want)))) log) (cY (upd t d (.bool want)) o.dst v) S' K))/\
            (b = !want->vdT P rg us ops rest (j+1) log (cY (upd t d (.bool !want)) o.dst (.tuple [])) S K)
        | .tuple []=>vdT P rg us ops rest (j+1) log (cY t o.dst (.tuple [])) S K
        | _=>False
      | none=>False
section
variable {P:Program} {rg:Nat} {us:Nat->CR2} {ops:List Oper} {K:Env->St->Prop}
theorem mJ {log:Log} {j:Nat}:cf ops log j ([],[]):=λp _=>.inr (by
  obtain ⟨i,r,w⟩:=p
  simp [aM])
theorem BG {o:Oper} {rest:List Oper} {j:Nat} {log:Log} {t:Env} {S:St} (h:vdT P rg us ops (o :: rest) j log t S K) :
    cf ops log j (fpG rg us ops j o t)/\vdG P rg us ops j o t S (λt' S'=>vdT P rg us ops rest (j+1) (lg j (fpG rg us ops j o t) log) t' S' K):=by
  unfold vdT at h
  unfold fpG vdG
  cases hg:o.guard with
  | none=>simp only [hg] at h;exact h
  | some gw=>
    obtain ⟨g,want⟩:=gw
    simp only [hg] at h
    simp only []
    cases hd:(ops[g]?).bind (·.dst) with
    | none=>simp only [hd] at h
    | some d=>
      simp only [hd] at h
      simp only []
      cases hb:t d with
      | bool b=>
        simp only [hb] at h
        simp only []
        by_cases hw:b=want
        · have e:upd t d (.bool want)=t:=xk (by rw [hb,hw])
          have:=h.1 hw
          rw [e] at this
          simp only [if_pos hw]
          exact this
        · have hbn:b = !want:=by cases b<;>cases want<;>simp_all
          have e:upd t d (.bool !want)=t:=xk (by rw [hb,hbn])
          have:=h.2 hbn
          rw [e] at this
          simp only [if_neg hw]
          exact ⟨mJ,this⟩
      | tuple vs=>
        cases vs with
        | nil=>simp only [hb] at h;exact ⟨mJ,h⟩
        | cons=>simp only [hb] at h
      | _=>simp only [hb] at h
theorem FC {n:Nat} (hok:js n ops=true) {i:Nat} (hi:i<ops.length):∀j,j<ops.length->t4 ops i j=true->i<j:=by
  intro j
  induction j using Nat.strongRecOn with
  | _ j ih=>
    intro hj hij
    have hoj:ops[j]? = some ops[j]:=List.getElem?_eq_getElem hj
    obtain ⟨e,he,hb,h⟩:=((mI hok hoj).2 i hi).1 hij
    have hlt:=(mI hok hoj).1 e he hb
    rcases h with rfl | h
    · exact hlt
    · exact Nat.lt_trans (ih e.on hlt om h) hlt
theorem Fk {n:Nat} (hok:js n ops=true):∀(rest:List Oper) (j:Nat) (log L:Log) (t:Env) (S:St) (listed:Array Bool),ops.drop j=rest->j<=ops.length->listed.size=ops.length->(∀i,listed.getD i false=true↔i<j)->
    (∀p∈L,p∈log\/p.2=([],[]))->vdT P rg us ops rest j log t S K->AD P rg us ops K L rest.length listed t S:=by
  intro rest
  induction rest with
  | nil=>
    intro j log L t S listed hrest hj hsz hl hL h
    have hjl:ops.length<=j:=by simpa using hrest
    refine ⟨?_,h⟩
    cases hr:Region.ready .any ops.toArray listed with
    | nil=>rfl
    | cons k ks=>
      have hk:k∈Region.ready .any ops.toArray listed:=by rw [hr];simp
      obtain ⟨h0,o,ho,_⟩:=mem_ready.1 hk
      have hkl:k<ops.length:=by have:=(Array.getElem?_eq_some_iff.1 ho).1;simpa using this
      have:=(hl k).2 om
      rw [mo h0] at this
      cases this
  | cons o rest ih=>
    intro j log L t S listed hrest hj hsz hl hL h
    have hjl:j<ops.length:=by
      rcases Nat.lt_or_ge j ops.length with h | h
      · exact h
      · rw [List.drop_eq_nil_of_le h] at hrest;cases hrest
    have hoj:ops[j]? = some o:=by
      have h0:(ops.drop j)[0]? = (o :: rest)[0]?:=by rw [hrest]
      simpa using h0
    obtain ⟨h1,h2⟩:=BG h
    have hdc:DC ops listed:=λa ha i hi hia=>(hl i).2 (by
      have hal:=(hl a).1 ha
      have:=FC hok hi a om hia
      omega)
    have hready:j∈Region.ready .any ops.toArray listed:=mem_ready.2 ⟨by
      have:¬listed.getD j false=true:=λhc=>by have:=(hl j).1 hc;omega
      have hsj:j<listed.size:=om
      simp [hsj] at this ⊢
      exact this,o,by simpa using hoj,λe he hb=>(hl e.on).2 ((mI hok hoj).1 e he hb)⟩
    refine Dp hok hoj rest.length L listed t S hdc hready rfl ?_ (pX h2 λt' S' h'=>?_)
    · intro p hp
      rcases hL p hp with hp | hp
      · exact h1 p hp
      · refine .inr ?_
        rw [hp]
        generalize fpG rg us ops j o t=E
        obtain ⟨r,w⟩:=E
        simp [aM]
    · refine ih (j+1) _ _ t' S' _ ?_ om (by simpa using hsz) ?_ ?_ h'
      · rw [List.drop_eq_getElem_cons hjl] at hrest
        exact (List.cons.inj hrest).2
      · intro i
        by_cases hij:j=i
        · subst hij
          simp [show j<listed.size by omega]
        · rw [getD_set_ne false hij,hl i];omega
      · intro p hp
        rcases List.mem_cons.1 hp with rfl | hp
        · generalize fpG rg us ops j o t=E
          obtain ⟨r,w⟩:=E
          cases r with
          | nil=>
            cases w with
            | nil=>exact .inr rfl
            | cons w ws=>exact .inl (by simp [lg])
          | cons a r=>exact .inl (by simp [lg])
        · rcases hL p hp with hp | hp
          · refine .inl ?_
            unfold lg
            split
            · exact hp
            · exact List.mem_cons_of_mem _ hp
          · exact .inr hp
theorem zD {n:Nat} {u:CR2} {o:Oper} {t:Env} {S:St} {C:AV->St->Prop} (h:uM P rg u o.dst o.op (ev t) S C):SOp P n o t S C:=by
  obtain ⟨dst,op,ty,pos,after,guard⟩:=o
  cases op with
  | call c=>
    obtain ⟨callee,xs,ts⟩:=c
    cases callee with
    | value f=>
      refine kD (rg:=rg) ?_
      show (match ev t f with | .fn (.func g) fs caps=>Ctr P g (fs++(xs.toList.map (ev t)++caps)) S C | _=>False)
      simp only [uM] at h
      generalize ev t f=ef at h ⊢
      by_cases hq:∃g fs caps,ef = .fn (.func g) fs caps
      · obtain ⟨g,fs,caps,rfl⟩:=hq
        obtain ⟨⟨_,h1⟩,h2⟩:=h
        refine Ctr.mono (h1 S (cg.refl _ S) (cg.refl _ S)) ?_
        rintro v S' ⟨γ,rfl,rfl⟩
        exact h2 γ
      · exfalso
        split at h
        · exact hq ⟨_,_,_,rfl⟩
        · exact h
    | invoke r m=>exact kD (rg:=rg) h
    | builtin b=>exact kD (rg:=rg) h
  | buildSlice T len parts=>
    obtain ⟨uv,rd,wk,wr,pl⟩:=u
    cases pl
    · exact kD (rg:=rg) h
    · exact uP rfl h
  | _=>exact kD (rg:=rg) h
def fP:CR2:=⟨λ_=>.junk,[],[],λ_=>[],false⟩
theorem Fi {n:Nat} {u:CR2} {o:Oper} {t:Env} {S:St} {C:AV->St->Prop} (h:vd2 P rg u o.dst o.op (ev t) S C):SOp P n o t S C:=by
  unfold vd2 at h
  cases hp:yW u o.op with
  | false=>rw [hp] at h;exact zD (rg:=rg) h
  | true=>
    rw [hp] at h
    refine Fu (λr K hk=>?_) h
    have:uM P r fP o.dst o.op (ev t) S K=vd P r jcr o.dst o.op (ev t) S K:=by
      cases ho:o.op with
      | call c=>
        obtain ⟨callee,xs,ts⟩:=c
        cases callee with
        | value f=>rw [ho] at hp;cases hp
        | _=>rfl
      | buildSlice=>rw [ho] at hp;cases hp
      | _=>rfl
    exact zD (rg:=r) (u:=fP) (this▸hk)
theorem Do {n:Nat} (hok:js n ops=true) {Q:Exit->Act->World->Prop}:∀(fuel:Nat) (L:Log) (listed:Array Bool) (t:Env) (S:St) (G:Ghost) (a:Act) (w:World),AD P rg us ops K L fuel listed t S->Rel G S w->TR n G t a->(∀a w,lift n G K a w->Q .normal a w)->
    ∀ro,wpAnyIn (fen ro) 0 P .any ops.toArray Q fuel listed a w:=by
  intro fuel
  induction fuel with
  | zero=>intro L listed t S G a w h hr ht hQ ro;exact ⟨h.1,hQ a w ⟨t,S,G,h.2,Ghost.le.refl G,hr,ht⟩⟩
  | succ fuel ih=>
    intro L listed t S G a w h hr ht hQ ro
    refine ⟨λhn=>hQ a w ⟨t,S,G,h.1 hn,Ghost.le.refl G,hr,ht⟩,λj hj=>?_⟩
    obtain ⟨_,o,ho,_⟩:=mem_ready.1 hj
    have hoj:ops[j]? = some o:=by simpa using ho
    have hdo:∀d,o.dst=some d->d<n:=λd hd=>zn hok (List.mem_of_getElem? hoj) hd
    obtain ⟨_,h2⟩:=h.2 j o hoj hj
    unfold wpOpIn
    simp only [ho]
    have step:vd2 P rg (us j) o.dst o.op (ev t) S (λv S'=>AD P rg us ops K L fuel (listed.setIfInBounds j true) (cY t o.dst v) S')->o.wpIn (fen ro) 0 P a w (wpAnyIn (fen ro) 0 P .any ops.toArray Q fuel (listed.setIfInBounds j true)) Q:=λhv=>
      Fi hv ro G a w _ Q hr ht (λv av S' G' w' hk hle hr' hav=>ih _ _ _ S' G' _ w' hk hr' ((ht.mono hle).put hdo hav) (λa w hl=>hQ a w (lift_mono hl hle)) ro)
    unfold vdG at h2
    cases hg:o.guard with
    | none=>
      simp only [hg] at h2
      rw [if_pos (by simp [Region.wanted,hg])]
      exact step h2
    | some gw=>
      obtain ⟨g,want⟩:=gw
      simp only [hg] at h2
      cases hd:(ops[g]?).bind (·.dst) with
      | none=>simp only [hd] at h2
      | some d=>
        simp only [hd] at h2
        cases hb:t d with
        | bool b=>
          simp only [hb] at h2
          have hy:=Bv ht hd hb
          have hw:Region.wanted o (yielded ops.toArray a.tmps)=(b == want):=by simp only [Region.wanted,hg,hy];cases b<;>cases want<;>rfl
          by_cases hbw:b=want
          · rw [if_pos (by rw [hw];simp [hbw])]
            rw [if_pos hbw] at h2
            exact step h2
          · rw [if_neg (by rw [hw];simp [hbw])]
            rw [if_neg hbw] at h2
            exact ⟨λ_ _=>trivial,ih _ _ _ S G _ w h2 hr (ht.put hdo (VR.undef G)) hQ ro⟩
        | tuple vs=>
          cases vs with
          | nil=>
            simp only [hb] at h2
            have hy:=Dr ht hd hb
            rw [if_neg (by simp [Region.wanted,hg,hy])]
            exact ⟨λ_ _=>trivial,ih _ _ _ S G _ w h2 hr (ht.put hdo (VR.undef G)) hQ ro⟩
          | cons=>simp only [hb] at h2
        | _=>simp only [hb] at h2
theorem Fh {n:Nat} {t:Env} {S:St} (rg:Nat) (us:Nat->CR2) (hok:js n ops=true) (h:vdT P rg us ops ops 0 [] t S K):vdr P n ops.toArray K t S:=by
  intro ro G a w Q hr ht hQ
  have h1:=Fk hok ops 0 [] [] t S (Array.replicate ops.length false) rfl (Nat.zero_le _) (by simp) (by intro i;simp [Array.getElem?_replicate];split<;>simp) (λp hp=>by simp at hp) h
  have h2:=Do hok ops.length [] _ t S G a w h1 hr ht hQ ro
  simpa using h2
def pc (v:AV):CR2:=⟨λ_=>v,[],[],λ_=>[],false⟩
def plc:CR2:=⟨λ_=>.junk,[],[],λ_=>[],true⟩
def wc (v:Gen->AV) (rd wk:List Key) (wr:Gen->List WE):CR2:=⟨v,rd,wk,wr,false⟩
def gT:List (Nat×CR2)->Nat->CR2
  | [],_=>fP
  | (i,u) :: rest,j=>if j=i then u else gT rest j
variable {d:Option Nat} {t:Env} {S:St} {C:AV->St->Prop} {ty:TypeId} {pos:String} {after:Array Edge} {rest:List Oper} {j:Nat} {log:Log} {u:CR2}
def zb (u:CR2) (o:Op):Bool:=yW u o || match o with | .call { callee:=.value _,.. }=>true | .buildSlice ..=>u.pl | _=>false
def plv (v:AV):CR2:=⟨λ_=>v,[],[],λ_=>[],true⟩
theorem BD {op:Op} (h:zb u op=false):vd2 P rg u d op (ev t) S C=vo P rg d op t S C:=by
  unfold zb at h
  rw [Bool.or_eq_false_iff] at h
  obtain ⟨hp,h⟩:=h
  unfold vd2
  rw [hp]
  show uM P rg u d op (ev t) S C=_
  cases op with
  | call c=>
    obtain ⟨callee,xs,ts⟩:=c
    cases callee with
    | value f=>cases h
    | _=>rfl
  | buildSlice T len parts=>
    obtain ⟨uv,rd,wk,wr,pl⟩:=u
    cases pl
    · rfl
    · cases h
  | _=>rfl
theorem v_ {op:Op}:vdT P rg us ops (⟨d,op,ty,pos,after,none⟩ :: rest) j log t S K=(cf ops log j (mH rg (d.getD 0) (us j) op (ev t))/\vd2 P rg (us j) d op (ev t) S (λv S'=>vdT P rg us ops rest (j+1) (lg j (mH rg (d.getD 0) (us j) op (ev t)) log) (cY t d v) S' K)):=rfl
theorem BE {op:Op} (h:mH rg (d.getD 0) (us j) op (ev t)=([],[])) (h':zb (us j) op=false) :
    vdT P rg us ops (⟨d,op,ty,pos,after,none⟩ :: rest) j log t S K=vo P rg d op t S (λv S'=>vdT P rg us ops rest (j+1) log (cY t d v) S' K):=by
  rw [v_,h,BD h']
  simp only [lg]
  exact propext ⟨λh=>h.2,λh=>⟨mJ,h⟩⟩
theorem ES {E:oA} (hE:E≠([],[])):lg j E log=(j,E) :: log:=by
  unfold lg
  split
  · exact absurd rfl hE
  · rfl
theorem BF {op:Op} {E:oA} (h:mH rg (d.getD 0) (us j) op (ev t)=E) (h':zb (us j) op=false) (hE:E≠([],[])) :
    vdT P rg us ops (⟨d,op,ty,pos,after,none⟩ :: rest) j log t S K=(cf ops log j E/\vo P rg d op t S (λv S'=>vdT P rg us ops rest (j+1) ((j,E) :: log) (cY t d v) S' K)):=by
  rw [v_,h,BD h',ES hE]
theorem xf {f:Operand} {xs:List Operand} {ts:Array TypeId}:vdT P rg us ops (⟨d,.call { callee:=.value f,args:=xs.toArray,argTypes:=ts },ty,pos,after,none⟩ :: rest) j log t S K =
    (cf ops log j ((us j).rd,(us j).wk)/\(match ev t f with
      | .fn (.func g) fs caps=>((∀γ,∀x∈(us j).wr γ,(x.1,x.2.1)∈(us j).wk)/\∀S',cg (us j).rd S' S->cg (us j).wk S' S->Ctr P g (fs++(xs.map (ev t)++caps)) S' (λv S''=>∃γ,v=(us j).v γ/\S''=fS ((us j).wr γ) S'))/\
          ∀γ,vdT P rg us ops rest (j+1) (lg j ((us j).rd,(us j).wk) log) (cY t d ((us j).v γ)) (fS ((us j).wr γ) S) K
      | _=>False)):=rfl
theorem xe {op:Op} {g:Nat} {want:Bool}:vdT P rg us ops (⟨d,op,ty,pos,after,some (g,want)⟩ :: rest) j log t S K=(match (ops[g]?).bind (·.dst) with
      | some s=>match t s with
        | .bool b=>(b=want->vdT P rg us ops (⟨d,op,ty,pos,after,none⟩ :: rest) j log (upd t s (.bool want)) S K)/\
            (b = !want->vdT P rg us ops rest (j+1) log (cY (upd t s (.bool !want)) d (.tuple [])) S K)
        | .tuple []=>vdT P rg us ops rest (j+1) log (cY t d (.tuple [])) S K
        | _=>False
      | none=>False):=rfl
end
end Go.Gg
