/- An own logic over the kit's weakest preconditions, part K: one operation of any kind, lists of operations, code; soundness. Conditions: none. -/
import Derived.Test.YtbnjpdocceckeaaGreatGa
import Derived.KernelRfl
set_option linter.all false
open List (map_congr_left range)
open Go.IntKind (signed wrap)
open Option (map_some)
open Bool (and_eq_true)
open Array (size_map)
namespace Go.Gg
open Go.RowKit (Below)
def kN(P:Program)(f:FuncId):Bool:=match P.funcs[f]? with
 | some fn => !(fn.name == "runtime.NumGoroutine") && fn.body.isSome
 | none=>false
def Ctr(P:Program)(f:FuncId)(as:List AV)(S:St)(R:AV->St->Prop):Prop:=kN P f=true/\Ck P f as S R
theorem Ctr.mono{P:Program}{f:FuncId}{as:List AV}{S:St}{R R':AV->St->Prop}(h:Ctr P f as S R)(hr:∀v S,R v S->R' v S):Ctr P f as S R':=⟨h.1,h.2.mono hr⟩
def KI:Op->Bool
 | .alloc _|.box ..|.store ..|.makeSlice ..|.buildSlice ..|.makeMap ..|.mapUpdate ..|.insert ..=>true
 | .call { callee:=.builtin .append,.. }=>true
 | .call { callee:=.value _,.. }=>true
 | _=>false
def vl(P:Program)(rg k:Nat)(o:Op)(e:Operand->AV)(S:St)(K:AV->St->Prop):Prop:=
 match o with
 | .alloc T=>di P T=true/\∀g,K (.ptr rg k g 0 0) (S.set rg k (.arr (QM P T).cells.length [QM P T]) g)
 | .box _ x=>((e x).Q_=true/\0<(e x).cells.length)/\∀g,K (.ptr rg k g 0 0) (S.set rg k (.arr (e x).cells.length [e x]) g)
 | .store T a x=>lj P T (e a) (e x) S K
 | .makeSlice T l c=>vP P rg k T (e l) (e c) S K
 | .buildSlice T len parts=>fp P rg k T len (parts.toList.map (·.1)) (parts.toList.map λp=>e p.2) S K
 | .makeMap T r=>nL P rg k T (r.map e) S K
 | .mapUpdate T m i x=>fK P T (e m) (e i) (e x) S K
 | .insert T m i x=>fK P T (e m) (e i) (e x) S K
 | .call { callee:=.builtin .append,args:=xs,argTypes:=ts }=>match xs.toList,ts.toList with
  | [b,x],[T,T']=>T=T'/\fi P rg k T (e b) (e x) S K
  | _,_=>False
 | .call { callee:=.value f,args:=xs,argTypes:=_ }=>match e f with
  | .fn (.func g) fs QG=>Ctr P g (fs++(xs.toList.map e++QG)) S K
  | _=>False
 | _=>False
variable{t:Env}{n rg:Nat}{P:Program}{S:St}{o:Oper}
theorem Hr{k:Nat}{K:AV->St->Prop}(h:vl P rg k o.op (ev t) S K):UR P n o t S K:=by
 cases ho:o.op with
 | alloc T=>rw[ho]at h;exact Gp ho rg k h.1 h.2
 | box T x=>rw[ho]at h;exact Ka ho rg k h.1.1 h.1.2 h.2
 | store T a x=>rw[ho]at h;exact Gl ho h
 | makeSlice T l c=>rw[ho]at h;exact HX ho rg k h
 | buildSlice T len parts=>rw[ho]at h;exact q_ ho rg k h
 | makeMap T r=>rw[ho]at h;exact CH ho rg k h
 | mapUpdate T m i x=>rw[ho]at h;exact xJ (.inl ho) h
 | insert T m i x=>rw[ho]at h;exact xJ (.inr ho) h
 | call c=>
  rw[ho]at h;obtain⟨callee,xs,ts⟩:=c;cases callee with
  | invoke r m=>exact h.elim
  | builtin b=>
   cases b<;>first|exact h.elim|skip
   simp only[vl]at h;split at h
   ·rename_i b x T T' hx ht;obtain rfl:xs = #[b,x]:=by cases xs;simp_all
    obtain rfl:ts = #[T,T']:=by cases ts;simp_all
    obtain⟨rfl,h⟩:=h;exact DY ho rg k h
   ·exact h.elim
  | value f=>
   simp only[vl]at h;split at h
   ·rename_i g first QG hf
    obtain⟨hc,h⟩:=h;intro ro G a w Kc Q hr ht hk;have hfv:=ht.eval f;rw[hf]at hfv;generalize Up:a.eval f=cv at hfv;cases hfv with
    | fn _ _ _ fs cs q1 q2 q3 q4=>
    unfold kN at hc;cases hfn:P.funcs[g]? with
    | none=>simp[hfn]at hc
    | some fn=>
    simp only[hfn,and_eq_true,Bool.not_eq_true']at hc;have RI:(execOp a.eval o).run P w = .ok (.enter g (fs++xs.map a.eval++cs)) w:=by
     have hb:fn.body≠none:=by intro e;simp[e]at hc
     have hnm : fn.name ≠ "runtime.NumGoroutine" := by simpa using hc.1
     simp[execOp,ho,resolve,Up,Deferred.ofValue,invoke,callFunc,hfn,hnm,hb]
    refine Hn RI (h G w _ hr ⟨by simp only[List.length_append,List.length_map,Array.length_toList,Array.size_append,size_map];omega,λi h1 h2=>?_⟩) ?_
    ·simp only[List.length_append,List.length_map,Array.length_toList,Array.size_append,size_map]at h1 h2;by_cases hf0:i<first.length
     ·have e1:(first++(xs.toList.map (ev t)++QG))[i]'(by simp;omega)=first[i]:=List.getElem_append_left hf0
      have e2:(fs++xs.map a.eval++cs)[i]'(by simp;omega)=fs[i]'om:=by rw[Array.getElem_append_left (by simp;omega),Array.getElem_append_left om]
      rw[e1,e2];exact q3 _ _ _
     ·by_cases hi:i-first.length<xs.size
      ·have e1:(first++(xs.toList.map (ev t)++QG))[i]'(by simp;omega)=ev t xs[i-first.length]:=by rw[List.getElem_append_right om,List.getElem_append_left (by simpa using hi)];simp
       have e2:(fs++xs.map a.eval++cs)[i]'(by simp;omega)=a.eval xs[i-first.length]:=by rw[Array.getElem_append_left (by simp;omega),Array.getElem_append_right om];simp[q1]
       rw[e1,e2];exact ht.eval _
      ·have e1:(first++(xs.toList.map (ev t)++QG))[i]'(by simp;omega)=QG[i-first.length-xs.size]'om:=by rw[List.getElem_append_right om,List.getElem_append_right (by simp;omega)];simp
       have e2:(fs++xs.map a.eval++cs)[i]'(by simp;omega)=cs[i-first.length-xs.size]'om:=by rw[Array.getElem_append_right (by simp;omega)];congr 1;simp only[Array.size_append,size_map];omega
       rw[e1,e2];exact q4 _ _ _
    ·rintro e w' ⟨v,av,S',G',rfl,b1,b2,b3,b4⟩;exact⟨v,rfl,hk v av S' G' w' b1 b2 b3 b4⟩
   ·exact h.elim
 | _=>rw[ho]at h;exact h.elim
def vop(P:Program)(rg:Nat)(o:Oper)(t:Env)(S:St)(K:AV->St->Prop):Prop:=bif KI o.op then vl P rg (o.dst.getD 0) o.op (ev t) S K else vq P o.op (ev t) S (λv=>K v S)
theorem nD{K:AV->St->Prop}(h:vop P rg o t S K):UR P n o t S K:=by
 unfold vop at h;cases hl:KI o.op with
 | true=>
  rw[hl]at h;have h':vl P rg (o.dst.getD 0) o.op (ev t) S K:=h;exact Hr h'
 | false=>
  rw[hl]at h;have h':vq P o.op (ev t) S (λv=>K v S):=h;exact(Hq h').sop
def xA(P:Program)(rg:Nat)(ops:List Oper):List Oper->Env->St->(Env->St->Prop)->Prop
 | [],t,S,K=>K t S
 | o::rest,t,S,K=>match o.guard with
  | none=>vop P rg o t S (λv S'=>xA P rg ops rest (dh t o.dst v) S' K)
  | some (j,want)=>match (ops[j]?).bind (·.dst)with
   | some d=>match t d with
    | .bool b=>(b=want->vop P rg o (SR t d (.bool want)) S (λv S'=>xA P rg ops rest (dh (SR t d (.bool want)) o.dst v) S' K))/\
      (b = !want->xA P rg ops rest (dh (SR t d (.bool !want)) o.dst .Qz) S K)
    | _=>False
   | none=>False
structure AK where
 Q8:Env->St->Prop
 ex:Nat->Env->St->Prop
 ret:Env->St->Prop
def lift(n:Nat)(G:Qh)(K:Env->St->Prop)(a:Act)(w:World):Prop:=∃t S G',K t S/\G.le G'/\Rel G' S w/\TR n G' t a
def AK.lift(n:Nat)(G:Qh)(Q:AK):Exit->Act->World->Prop
 | .normal=>Gg.lift n G Q.Q8
 | .exit id=>Gg.lift n G (Q.ex id)
 | .ret=>Gg.lift n G Q.ret
 | _=>λ_ _=>False
variable{a:Act}{K:Env->St->Prop}{G:Qh}{w:World}
theorem QP{G':Qh}(h:lift n G' K a w)(hg:G.le G'):lift n G K a w:=
 let ⟨t,S,G2,a1,a2,a3,a4⟩:=h;⟨t,S,G2,a1,hg.trans a2,a3,a4⟩
variable{v:AV}{d:Nat}
theorem Cv(h:t d=v):SR t d v=t:=by
 funext k;unfold SR;split;·rename_i e;rw[e,h]
 ·rfl
variable{ops:List Oper}{j:Nat}
theorem Hm(h:TR n G t a){b:Bool}(hd:(ops[j]?).bind (·.dst)=some d)(hb:t d = .bool b) :yielded ops.toArray a.tmps j=some b:=by
 have h1:=h.2.2 d;rw[hb]at h1;generalize hv:a.tmps.getD d undef=v at h1;cases h1;unfold yielded;simp only[List.getElem?_toArray,hd];rw[Array.getD_eq_getD_getElem?]at hv;cases hg:a.tmps[d]? with
 | none=>rw[hg]at hv;simp[undef]at hv
 | some x=>rw[hg]at hv;simp at hv;subst hv;simp only[Option.bind_some,hg]
theorem VR.undef(G:Qh):VR G (.tuple []) undef:=.tuple [] #[] rfl (λi h=>by simp at h)
theorem JO(h:TR n G t a)(hd:(ops[j]?).bind (·.dst)=some d)(hb:t d = .tuple []):yielded ops.toArray a.tmps j=none:=by
 have h1:=h.2.2 d;rw[hb]at h1;generalize hv:a.tmps.getD d undef=v at h1;cases h1 with
 | tuple _ xs q1 _=>
  unfold yielded;simp only[List.getElem?_toArray,hd];rw[Array.getD_eq_getD_getElem?]at hv;cases hg:a.tmps[d]? with
  | none=>simp[hg]
  | some x=>rw[hg]at hv;simp at hv;subst hv;simp[hg]
def Rm(t:Env)(S:St)(t':Env)(S':St):Prop:=∀(n:Nat) (G:Qh) (a:Act) (w:World),Rel G S w->TR n G t a->∃G',G.le G'/\Rel G' S' w/\TR n G' t' a
theorem Rm.trans{t t' t'':Env}{S S' To:St}(h:Rm t S t' S')(h':Rm t' S' t'' To):Rm t S t'' To:=λn G a w hr ht=>
 let ⟨G1,a1,a2,a3⟩:=h n G a w hr ht;let ⟨G2,b1,b2,b3⟩:=h' n G1 a w a2 a3
 ⟨G2,a1.trans b1,b2,b3⟩
def Bc(K:Env->St->Prop)(t:Env)(S:St):Prop:=∀(n:Nat) (G:Qh) (a:Act) (w:World),Rel G S w->TR n G t a->lift n G K a w
variable{S':St}
theorem Bc.wk{t':Env}(hw:Rm t S t' S')(h:Bc K t' S'):Bc K t S:=λn G a w hr ht=>
 let ⟨G1,a1,a2,a3⟩:=hw n G a w hr ht
 QP (h n G1 a w a2 a3) a1
def vdr(P:Program)(n:Nat)(ops:Array Oper)(K:Env->St->Prop)(t:Env)(S:St):Prop:=
 ∀(ro:Option Nat) (G:Qh) (a:Act) (w:World) (Q:Exit->Act->World->Prop),Rel G S w->TR n G t a->(∀a w,lift n G K a w->Q .normal a w)->
  wpAnyIn (Xr ro) 0 P .any ops Q ops.size (Array.replicate ops.size false) a w
def vc(P:Program)(n rg:Nat):Code->AK->Env->St->Prop
 | .skip,Q,t,S=>Q.Q8 t S
 | .region _ ops draw,Q,t,S=>bif draw then vdr P n ops Q.Q8 t S else xA P rg ops.toList ops.toList t S Q.Q8
 | .seq a b,Q,t,S=>∃R:Env->St->Prop,vc P n rg a { Q with Q8:=R } t S/\∀t S,R t S->Bc (vc P n rg b Q) t S
 | .cond c a b,Q,t,S=>match ev t c with
  | .bool v=>(v=true->vc P n rg a Q t S)/\(v=false->vc P n rg b Q t S)
  | _=>False
 | .block id c,Q,t,S=>vc P n rg c { Q with ex:=λi t S=>if i=id then Q.Q8 t S else Q.ex i t S } t S
 | .loop c,Q,t,S=>∃(I:Env->St->Prop) (μ:Env->St->Nat),I t S/\∀t S,I t S->vc P n rg c { Q with Q8:=λt' S'=>I t' S'/\μ t' S'<μ t S } t S
 | .exit id,Q,t,S=>Q.ex id t S
 | .ret,Q,t,S=>Q.ret t S
 | _,_,_,_=>False
theorem DO{F:Fence}{c:Code}{Q:Exit->Act->World->Prop}{α:Type}(I:α->Act->World->Prop)(μ:α->Nat){x:α}(h₀:I x a w)(round:∀x a w,I x a w->c.wpIn F n P (Exit.then (λa' w'=>∃x',I x' a' w'/\μ x'<μ x) Q) a w):(Code.loop c).wpIn F n P Q a w:=by
 intro b k cs WZ hb hr
 have key:∀j x a w,μ x=j->I x a w->
   ∃e a' w',Q e a' w'/\ArrivesIn (Machine.fenced P F) P (lone (b.atR a (.code c :: .inLoop c::k)) cs w) b k cs e a' w':=by
  intro j;induction j using Nat.strongRecOn with
  | _ j ih=>
   intro x a w hn hI;obtain⟨e,a₁,w₁,hq,V1⟩:=round x a w hI b (.inLoop c::k) cs WZ hb hr;cases e with
   | normal=>
    obtain⟨x',aev,QH⟩:=hq;obtain⟨e₂,a₂,w₂,adw,Zl⟩:=ih (μ x') (hn▸QH) x' a₁ w₁ rfl aev;exact⟨e₂,a₂,w₂,adw,.of_steps (StepsIn.trans V1 (.one (fenced_calm hb hr rfl) stepR_inLoop)) Zl⟩
   | exit id=>exact⟨_,a₁,w₁,hq,.pass (x:=.inLoop c) rfl (λ_ _=>.inl Qy) V1⟩
   | goto l=>exact⟨_,a₁,w₁,hq,.pass (x:=.inLoop c) rfl (λ_ _=>.inl Qy) V1⟩
   | ret=>exact⟨_,a₁,w₁,hq,.pass (x:=.inLoop c) rfl (λ_ _=>.inl Qy) V1⟩
   | panic ch=>exact⟨_,a₁,w₁,hq,.pass (x:=.inLoop c) rfl (λ_ _=>.inl Qy) V1⟩
   | outgrown=>exact⟨_,a₁,w₁,hq,.pass (x:=.inLoop c) rfl (λ_ _=>.inl Qy) V1⟩
 obtain⟨e,a',w',hq,V1⟩:=key _ x a w rfl h₀;exact⟨e,a',w',hq,.of_steps (.one (fenced_calm hb hr rfl) stepR_loop) V1⟩
def kL(b:Bool)(n:Nat):Code->Bool
 | .region _ ops _=>ops.all λo=>match o.dst with|some d=>decide (d<n)|none=>true
 | .seq x y=>kL b n x&&kL b n y
 | .cond _ x y=>kL b n x&&kL b n y
 | .block _ c=>kL b n c
 | .loop c=>kL b n c
 | .rangeFunc _ ps x c=>!b&&(ps.all λp=>decide (p<n))&&kL true n x&&kL true n c
 | _=>true
def nK(P:Program):List ResultVar->Env->St->(List AV->Prop)->Prop
 | [],_,_,K=>K []
 | .tmp k::rest,t,S,K=>nK P rest t S (λvs=>K (t k::vs))
 | .cell a T::rest,t,S,K=>jK P T (t a) S (λv=>nK P rest t S (λvs=>K (v::vs)))
def Hp:List AV->AV|[v]=>v|vs=>.tuple vs
def Wk(v:AV)(S:St)(v':AV)(S':St):Prop:=∀(G:Qh) (w:World) (x:Value),Rel G S w->VR G v x->∃G',G.le G'/\Rel G' S' w/\VR G' v' x
theorem Wk.sub{v:AV}{S S':St}(h:S'.sub S):Wk v S v S':=λG _ _ hr hv=>⟨G,Qh.le.refl G,hr.sub h,hv⟩
def dz(R:AV->St->Prop)(v:AV)(S:St):Prop:=∀(G:Qh) (w:World) (x:Value),Rel G S w->VR G v x->∃v' S' G',R v' S'/\G.le G'/\Rel G' S' w/\VR G' v' x
variable{R:AV->St->Prop}
theorem dz.now(h:R v S):dz R v S:=λG _ _ hr hv=>⟨v,S,G,h,Qh.le.refl G,hr,hv⟩
theorem dz.wk{v':AV}(hw:Wk v S v' S')(h:dz R v' S'):dz R v S:=λG w x hr hv=>
 let ⟨G1,a1,a2,a3⟩:=hw G w x hr hv;let ⟨v2,S2,G2,b0,b1,b2,b3⟩:=h G1 w x a2 a3
 ⟨v2,S2,G2,b0,a1.trans b1,b2,b3⟩
theorem pi{P:Program}{n:Nat}{G:Qh}{t:Env}{S:St}{a:Act}{w:World}(hr:Rel G S w)(ht:TR n G t a):∀(l:List ResultVar) (K:List AV->Prop),nK P l t S K->
  ∃(xs:List Value) (vs:List AV),(l.mapM λr=>(match r with|.tmp t=>pure (a.tmps.getD t undef)|.cell ad ty=>do loadVar ty (←asAddr (a.tmps.getD ad undef)):Sem Value)).run P w = .ok xs w/\K vs/\
   xs.length=vs.length/\∀i (h:i<vs.length) (h':i<xs.length),VR G vs[i] xs[i]
 | [],K,h=>⟨[],[],by simp,h,rfl,λi h=>by simp at h⟩
 | .tmp k::rest,K,h=>by
  obtain⟨xs,vs,h1,h2,h3,h4⟩:=pi hr ht rest _ h;refine⟨a.tmps.getD k undef::xs,t k::vs,by simp only[List.mapM_cons,Sem.run_bind,Sem.run_pure,Result.andThen_ok,h1],h2,by simp[h3],λi hi Q9=>?_⟩;cases i with
  | zero=>exact ht.2.2 k
  | succ i=>exact h4 i (by simpa using hi) (by simpa using Q9)
 | .cell ad ty::rest,K,h=>by
  obtain⟨v,av,q1,q2,q3⟩:=Ic (P:=P) hr (ht.2.2 ad) h;obtain⟨xs,vs,h1,h2,h3,h4⟩:=pi hr ht rest _ q2;have hl:((do loadVar ty (←asAddr (a.tmps.getD ad undef)):Sem Value)).run P w = .ok v w:=by
   have hp:=ht.2.2 ad;simp only[nK,jK]at h
   cases hta:t ad<;>rw[hta]at h hp<;>first
    | exact h.elim
    | (
      generalize a.tmps.getD ad undef=z at hp q1 ⊢;cases hp;simpa[Instr.loadAt,Instr.sureAddr,asAddr]using q1)
  refine⟨v::xs,av::vs,by simp only[List.mapM_cons,Sem.run_bind,hl,Result.andThen_ok,h1,Sem.run_pure],h2,by simp[h3],λi hi Q9=>?_⟩;cases i with
  | zero=>exact q3
  | succ i=>exact h4 i (by simpa using hi) (by simpa using Q9)
def args(as:List AV):Env:=λi=>as.getD i .Qz
def BB(P:Program)(rs:List ResultVar)(R:AV->St->Prop):Env->St->Prop:=λt S=>nK P rs t S (λvs=>dz R (Hp vs) S)
theorem GV(S:St)(r:Nat):(S.clear r).sub S:=λr' k x h=>by
 simp only[St.clear]at h;split at h;·cases h
 ·exact h
end Go.Gg
namespace Go.Gg
def vo(P:Program)(rg:Nat)(d:Option Nat)(op:Op)(t:Env)(S:St)(K:AV->St->Prop):Prop:=bif KI op then vl P rg (d.getD 0) op (ev t) S K else vq P op (ev t) S (λv=>K v S)
variable{r:Nat}
section
variable{P:Program}{n rg:Nat}{d:Option Nat}{t:Env}{S:St}{K:AV->St->Prop}{ty:TypeId}{pos:String}{after:Array Edge}{Q:AK}{KE:Env->St->Prop}
@[go_sem ↓] theorem aeS:vc P n rg .skip Q t S=Q.Q8 t S:=rfl
@[go_sem ↓] theorem abC {id:Nat} {l:List Oper}:vc P n rg (.region id l.toArray false) Q t S=xA P rg l l t S Q.Q8:=rfl
@[go_sem ↓] theorem acx {id:Nat} {ops:Array Oper}:vc P n rg (.region id ops true) Q t S=vdr P n ops Q.Q8 t S:=rfl
@[go_sem ↓] theorem aeU {c:Operand} {a b:Code}:vc P n rg (.cond c a b) Q t S=(match ev t c with
  | .bool v=>(v=true->vc P n rg a Q t S)/\(v=false->vc P n rg b Q t S)
  | _=>False):=rfl
@[go_sem ↓] theorem acy {id:Nat} {c:Code}:vc P n rg (.block id c) Q t S=vc P n rg c { Q with ex:=λi t S=>if i=id then Q.Q8 t S else Q.ex i t S } t S:=rfl
@[go_sem ↓] theorem aeT {id:Nat}:vc P n rg (.exit id) Q t S=Q.ex id t S:=rfl
@[go_sem ↓] theorem af1:vc P n rg .ret Q t S=Q.ret t S:=rfl
@[congr] theorem aaf {R:AV->St->Prop} {v v':AV} {S S':St} (hv:v=v') (hS:S=S'):dz R v S=dz R v' S':=by rw[hv,hS]
@[congr] theorem ZW {K:Env->St->Prop} {t:Env} {S:St}:Bc K t S=Bc K t S:=rfl
def Mg(I:Env->St->Prop)(μ:Env->St->Nat)(m:Nat)(t:Env)(S:St):Prop:=I t S/\μ t S<m
@[congr] theorem aak {I:Env->St->Prop} {μ:Env->St->Nat} {m:Nat} {t:Env} {S:St}:Mg I μ m t S=Mg I μ m t S:=rfl
@[go_sem ↓] theorem acu {ops:List Oper}:xA P rg ops [] t S KE=KE t S:=rfl
@[go_sem ↓] theorem abB {ops rest:List Oper} {op:Op}:xA P rg ops (⟨d,op,ty,pos,after,none⟩::rest) t S KE=vo P rg d op t S (λv S'=>xA P rg ops rest (dh t d v) S' KE):=rfl
@[go_sem ↓] theorem abA {ops rest:List Oper} {op:Op} {j:Nat} {want:Bool}:xA P rg ops (⟨d,op,ty,pos,after,some (j,want)⟩::rest) t S KE=(match (ops[j]?).bind (·.dst)with
   | some g=>match t g with
     | .bool b=>(b=want->vo P rg d op (SR t g (.bool want)) S (λv S'=>xA P rg ops rest (dh (SR t g (.bool want)) d v) S' KE))/\
      (b = !want->xA P rg ops rest (dh (SR t g (.bool !want)) d .Qz) S KE)
     | _=>False
   | none=>False):=rfl
@[go_sem] theorem abF {k:Nat} {v:AV}:dh t (some k) v=SR t k v:=rfl
@[go_sem] theorem abG {v:AV}:dh t none v=t:=rfl
@[go_sem] theorem af6 {k k':Nat} {v:AV}:SR t k v k'=if k'=k then v else t k':=rfl
@[go_sem] theorem aif {k:Nat}:ev t (.tmp k)=t k:=rfl
@[go_sem] theorem aeC {v:Value}:ev t (.const v)=ofConst v:=rfl
@[go_sem] theorem afE {f:FuncId}:ev t (.func f) = .fn (.func f) [] []:=rfl
@[go_sem] theorem ZU {k:IntKind} {m:Int}:ofConst (.int k m) = .int k m:=rfl
@[go_sem] theorem Y7 {b:Bool}:ofConst (.bool b) = .bool b:=rfl
@[go_sem] theorem XL {s:ByteArray}:ofConst (.string s) = .str s:=rfl
@[go_sem] theorem Y5:ofConst (.pointer none) = .Sm:=rfl
@[go_sem] theorem ZS:ofConst (.slice none 0 0) = .nil:=rfl
@[go_sem] theorem XM:ofConst (.map none) = .Rn:=rfl
@[go_sem] theorem Y6:ofConst .nilFunc = .Tz:=rfl
@[go_sem] theorem XN:ofConst .nilIface = .Qg:=rfl
@[go_sem] theorem YA {T:TypeId} {k:IntKind} {m:Int}:ofConst (.iface T (.int k m)) = .iface T (.int k m):=rfl
@[go_sem ↓] theorem YT {x:Operand}:vo P rg d (.move x) t S K=K (ev t x) S:=rfl
@[go_sem ↓] theorem WM {x:Operand}:vo P rg d (.assign x) t S K=K (ev t x) S:=rfl
@[go_sem ↓] theorem YS {c a b:Operand}:vo P rg d (.pick c a b) t S K=(match ev t c with|.bool v=>K (bif v then ev t a else ev t b) S|_=>False):=rfl
@[go_sem ↓] theorem Q5 {op:BinOp} {T T':TypeId} {x y:Operand}:vo P rg d (.binOp op T x y T') t S K=zH P op T x y (ev t x) (ev t y) (λv=>K v S):=rfl
@[go_sem ↓] theorem Zw {op:UnOp} {T:TypeId} {x:Operand}:vo P rg d (.unOp op T x) t S K=Y1 op (ev t x) (λv=>K v S):=rfl
@[go_sem ↓] theorem YW {s T:TypeId} {x:Operand}:vo P rg d (.convert s T x) t S K=(match ev t x,td P T,td P s with|.int _ m,.int k,.int _=>K (.int k (k.wrap m)) S|_,_,_=>False):=by
 unfold vo vq;rfl
@[go_sem ↓] theorem Xw {T:TypeId} {x:Operand}:vo P rg d (.makeInterface T x) t S K=((match td P T with|.iface|.other=>False|_=>True)/\K (.iface T (ev t x)) S):=rfl
@[go_sem ↓] theorem YV {fn:Fn} {a b:List Operand}:vo P rg d (.makeFunc fn a.toArray b.toArray) t S K=K (.fn fn (a.map (ev t)) (b.map (ev t))) S:=rfl
@[go_sem ↓] theorem VF {T:TypeId} {parts:List (Nat×Operand)}:vo P rg d (.build T parts.toArray) t S K=nM P T (parts.map λp=>(p.1,ev t p.2)) (λv=>K v S):=rfl
@[go_sem ↓] theorem Tu {T:TypeId} {x:Operand}:vo P rg d (.load T x) t S K=jK P T (ev t x) S (λv=>K v S):=rfl
@[go_sem ↓] theorem T0 {x:Operand}:vo P rg d (.nilCheck x) t S K=((match ev t x with|.ptr ..|.Q2 _=>True|.fn (.func _) _ _=>True|_=>False)/\K (ev t x) S):=rfl
@[go_sem ↓] theorem Tv {T f:Nat} {x:Operand}:vo P rg d (.fieldAddr T x f) t S K=fy P T f (ev t x) (λv=>K v S):=rfl
@[go_sem ↓] theorem acw {T f:Nat} {x:Operand}:vo P rg d (.field T x f) t S K=qc P T f (ev t x) (λv=>K v S):=rfl
@[go_sem ↓] theorem Sz {T:TypeId} {x i:Operand}:vo P rg d (.indexAddr T x i) t S K=gW P T (ev t x) (ev t i) (λv=>K v S):=rfl
@[go_sem ↓] theorem Xv {T:TypeId} {x i:Operand}:vo P rg d (.index T x i) t S K=oZ P T (ev t x) (ev t i) (λv=>K v S):=rfl
@[go_sem ↓] theorem VE {T:TypeId} {x:Operand} {lo hi mx:Option Operand}:vo P rg d (.slice T x lo hi mx) t S K=lk P T (ev t x) (lo.map (ev t)) (hi.map (ev t)) (mx.map (ev t)) (λv=>K v S):=rfl
@[go_sem ↓] theorem Wf {x:Operand} {i:Nat}:vo P rg d (.extract x i) t S K=(match ev t x with|.tuple vs=>i<vs.length/\K (vs.getD i .Qz) S|_=>False):=rfl
@[go_sem ↓] theorem WN {x:Operand} {a T:TypeId} {ok:Bool}:vo P rg d (.typeAssert x a T ok) t S K=oN P T ok (ev t x) (λv=>K v S):=rfl
@[go_sem ↓] theorem We {x:Operand} {T:TypeId}:vo P rg d (.call { callee:=.builtin .len,args:=#[x],argTypes:=#[T] }) t S K=jL P T (ev t x) S (λv=>K v S):=rfl
@[go_sem ↓] theorem U1 {T:TypeId} {x i:Operand} {ok:Bool}:vo P rg d (.lookup T x i ok) t S K=iM P T ok (ev t x) (ev t i) S (λv=>K v S):=rfl
@[go_sem ↓] theorem Wd {T:TypeId} {r:Option Operand}:vo P rg d (.makeMap T r) t S K=nL P rg (d.getD 0) T (r.map (ev t)) S K:=rfl
@[go_sem ↓] theorem WJ {T:TypeId} {m i x:Operand}:vo P rg d (.mapUpdate T m i x) t S K=fK P T (ev t m) (ev t i) (ev t x) S K:=rfl
@[go_sem ↓] theorem WK {T:TypeId} {m i x:Operand}:vo P rg d (.insert T m i x) t S K=fK P T (ev t m) (ev t i) (ev t x) S K:=rfl
@[go_sem ↓] theorem aap {x y:Operand} {ts:Array TypeId}:vo P rg d (.call { callee:=.builtin .max,args:=#[x,y],argTypes:=ts }) t S K =
  (match ev t x,ev t y with|.int k m,.int _ n=>K (.int k (if m<n then n else m)) S|_,_=>False):=by unfold vo vq;rfl
@[go_sem ↓] theorem aao {x y:Operand} {ts:Array TypeId}:vo P rg d (.call { callee:=.builtin .min,args:=#[x,y],argTypes:=ts }) t S K =
  (match ev t x,ev t y with|.int k m,.int _ n=>K (.int k (if n<m then n else m)) S|_,_=>False):=by unfold vo vq;rfl
@[go_sem ↓] theorem Xx {T:TypeId}:vo P rg d (.alloc T) t S K=(di P T=true/\∀g,K (.ptr rg (d.getD 0) g 0 0) (S.set rg (d.getD 0) (.arr (QM P T).cells.length [QM P T]) g)):=rfl
@[go_sem ↓] theorem aaq {T:TypeId} {x:Operand}:vo P rg d (.box T x) t S K=(((ev t x).Q_=true/\0<(ev t x).cells.length)/\∀g,K (.ptr rg (d.getD 0) g 0 0) (S.set rg (d.getD 0) (.arr (ev t x).cells.length [ev t x]) g)):=rfl
@[go_sem ↓] theorem VC {T:TypeId} {a x:Operand}:vo P rg d (.store T a x) t S K=lj P T (ev t a) (ev t x) S K:=rfl
@[go_sem ↓] theorem YU {T:TypeId} {l c:Operand}:vo P rg d (.makeSlice T l c) t S K=vP P rg (d.getD 0) T (ev t l) (ev t c) S K:=rfl
@[go_sem ↓] theorem UT {T:TypeId} {len:Nat} {parts:List (Nat×Operand)}:vo P rg d (.buildSlice T len parts.toArray) t S K=fp P rg (d.getD 0) T len (parts.map (·.1)) (parts.map λp=>ev t p.2) S K:=rfl
@[go_sem ↓] theorem U2 {T:TypeId} {b x:Operand}:vo P rg d (.call { callee:=.builtin .append,args:=#[b,x],argTypes:=#[T,T] }) t S K=fi P rg (d.getD 0) T (ev t b) (ev t x) S K:=by
 have:vo P rg d (.call { callee:=.builtin .append,args:=#[b,x],argTypes:=#[T,T] }) t S K=(T=T/\fi P rg (d.getD 0) T (ev t b) (ev t x) S K):=rfl
 rw[this];simp
@[go_sem ↓] theorem YX {f:Operand} {xs:List Operand} {ts:Array TypeId}:vo P rg d (.call { callee:=.value f,args:=xs.toArray,argTypes:=ts }) t S K =
  (match ev t f with|.fn (.func g) fs QG=>Ctr P g (fs++(xs.map (ev t)++QG)) S K|_=>False):=rfl
@[go_sem] theorem agc {r k r' k' g:Nat} {o:QW}:St.set S r k o g r' k'=if r'=r/\k'=k then some (o,g)else S r' k':=rfl
@[go_sem] theorem ab8 {r k g:Nat} {o:QW}:(St.set S r k o g).clear r=S.clear r:=by
 funext r' k'
 simp only[St.clear,St.set]
 split
 ·rfl
 ·rename_i h;rw[if_neg (λhc=>h hc.1)]
@[go_sem] theorem set_set {r k g g':Nat} {o o':QW}:(St.set S r k o g).set r k o' g'=S.set r k o' g':=by
 funext a b
 simp only[St.set]
 split<;>rfl
@[go_sem] theorem afI {r k g:Nat} {o:QW}:(St.set S r k o g).del r k=S.del r k:=by
 funext a b
 simp only[St.set,St.del]
 split<;>rfl
@[go_sem] theorem ab9 {r k:Nat}:(S.del r k).clear r=S.clear r:=by
 funext a b
 simp only[St.del,St.clear]
 split
 ·rfl
 ·rename_i h;rw[if_neg (λhc=>h hc.1)]
theorem EB(h:∀k,S r k=none):S.clear r=S:=by
 funext a b;simp only[St.clear];split;·rename_i e;rw[e,h]
 ·rfl
@[go_sem] theorem aai {r:Nat}:(S.clear r).clear r=S.clear r:=EB (λk=>by simp[St.clear])
@[go_sem] theorem ace {k:IntKind} {m:Int}:(AV.int k m).cells=[.int k m]:=rfl
@[go_sem] theorem abm {b:Bool}:(AV.bool b).cells=[.bool b]:=rfl
@[go_sem] theorem acf {cs:List AV}:(AV.agg cs).cells=cs:=rfl
@[go_sem] theorem abl {cs:List AV}:(AV.list cs).cells=[.list cs]:=rfl
@[go_sem] theorem acb:(AV.nil).cells=[.nil]:=rfl
@[go_sem] theorem aeH {kk r k g off len:Nat}:(AV.sl kk r k g off len).cells=[.sl kk r k g off len]:=rfl
@[go_sem] theorem acd {r k g:Nat}:(AV.map r k g).cells=[.map r k g]:=rfl
@[go_sem] theorem Zt:(AV.Rn).cells=[.Rn]:=rfl
@[go_sem] theorem aca {r k g i off:Nat}:(AV.ptr r k g i off).cells=[.ptr r k g i off]:=rfl
@[go_sem] theorem abj:(AV.Sm).cells=[.Sm]:=rfl
@[go_sem] theorem aeI {f:Fn} {a b:List AV}:(AV.fn f a b).cells=[.fn f a b]:=rfl
@[go_sem] theorem abk:(AV.Tz).cells=[.Tz]:=rfl
@[go_sem] theorem Zu:(AV.Qg).cells=[.Qg]:=rfl
@[go_sem] theorem aaj {T:TypeId} {v:AV}:(AV.iface T v).cells=[.iface T v]:=rfl
attribute [go_sem ↓] vQ.eq_def sU.eq_def zH.eq_def Y1.eq_def jK.eq_def gW.eq_def oZ.eq_def lk.eq_def fy.eq_def qc.eq_def nM.eq_def jL.eq_def uM.eq_def oN.eq_def lj.eq_def vP.eq_def fp.eq_def fi.eq_def
attribute [go_sem] V2 qL WA iU TN fo AV.one AV.Q_ fR nK Hp BB
 List.getD_cons_zero List.getD_cons_succ List.length_cons List.length_nil List.map_cons List.map_nil map_some Option.map_none Option.getD_some Option.getD_none List.drop_succ_cons List.drop_zero List.take_succ_cons List.take_zero
 List.cons_append List.nil_append List.append_nil List.all_cons List.all_nil List.foldl_cons List.foldl_nil cond_true cond_false List.getElem?_cons_zero List.getElem?_cons_succ Option.bind_some Option.bind_none List.set_cons_zero List.set_cons_succ List.range_succ List.range_zero beq_self_eq_true List.length_take List.length_drop List.length_append List.length_replicate List.length_set
 eq_self Bool.not_true Bool.not_false Int.toNat_natCast Nat.zero_add Nat.add_zero true_and and_true if_true if_false Bool.and_true Bool.true_and and_self reduceCtorEq false_implies true_implies implies_true List.drop_nil List.take_nil
end
@[go_sem] theorem args_at {as:List AV} {k:Nat}:args as k=as.getD k .Qz:=rfl
@[go_sem] theorem aeF {p q:Prop} (h:p):(p/\q)=q:=by simp[h]
def RR(k:IntKind)(l:List Int):List AV:=l.map (.int k)
@[go_sem] theorem ac5 (k:IntKind) (l:List Int):(RR k l).length=l.length:=by simp[RR]
@[go_sem] theorem ac7 (k:IntKind) (l:List Int) (f:AV->Bool):(RR k l).all f=l.all (λm=>f (.int k m)):=by simp[RR,Function.comp_def]
@[go_sem] theorem ais {α:Type} (l:List α):(l.all λ_=>true)=true:=by simp
@[go_sem] theorem abL (k:IntKind) (l:List Int) (n:Nat):(RR k l).take n=RR k (l.take n):=by simp[RR]
@[go_sem] theorem abN (k:IntKind) (l:List Int) (n:Nat):(RR k l).drop n=RR k (l.drop n):=by simp[RR]
@[go_sem] theorem ZY (k:IntKind) (l m:List Int):RR k l++RR k m=RR k (l++m):=by simp[RR]
@[go_sem] theorem abM (k:IntKind) (l:List Int) (m:Int):RR k l++[.int k m]=RR k (l++[m]):=by simp[RR]
@[go_sem] theorem abO (k:IntKind) (l:List Int) (m:Int):AV.int k m::RR k l=RR k (m::l):=by simp[RR]
@[go_sem] theorem ac4 (k:IntKind) (n:Nat) (m:Int):List.replicate n (.int k m)=RR k (List.replicate n m):=by simp[RR]
@[go_sem] theorem ac3 (k:IntKind) (l:List Int) (i:Nat) (m:Int):(RR k l).set i (.int k m)=RR k (l.set i m):=by simp[RR]
@[go_sem] theorem ac6 (k:IntKind) (l:List Int) (i:Nat) (h:i<l.length):(RR k l).getD i .Qz = .int k (l.getD i 0):=by
 rw[RR,List.getD_eq_getElem?_getD,List.getD_eq_getElem?_getD];simp[h]
@[go_sem] theorem cast_zero:((0:Nat):Int)=0:=rfl
@[go_sem] theorem aeK:((1:Nat):Int)=1:=rfl
@[go_sem] theorem acg (a:Nat):((a+1:Nat):Int)=(a:Int)+1:=rfl
@[go_sem] theorem toNat_add (a b:Nat):((a:Int)+(b:Int)).toNat=a+b:=om
@[go_sem] theorem Yx (a:Nat):((a:Int)+1).toNat=a+1:=om
@[go_sem] theorem Qj {m:Int} (h0:0<=m) (h1:m<=18446744073709551615):IntKind.u64.wrap m=m:=by simp only[wrap,IntKind.bits,signed];simp;omega
@[go_sem] theorem RX {m:Int} (h0 : -9223372036854775808<=m) (h1:m<=9223372036854775807):IntKind.i64.wrap m=m:=by rw[IntKind.wrap_i64];omega
theorem Cn{m:Int}:IntKind.u64.wrap m=m%18446744073709551616:=by simp[wrap,IntKind.bits,signed]
@[go_sem] theorem wrap_u32 {m:Int}:IntKind.u32.wrap m=m%4294967296:=by simp[wrap,IntKind.bits,signed]
@[go_sem] theorem wrap_u8 {m:Int}:IntKind.u8.wrap m=m%256:=by simp[wrap,IntKind.bits,signed]
structure aot(p:Prop):Prop where
 out:p
def ix:AV->Nat|.int _ m=>m.toNat|_=>0
@[go_sem] theorem agk {k:IntKind} {m:Int}:ix (.int k m)=m.toNat:=rfl
open Go.RowKit (Below)
theorem FW(S:St)(r k:Nat):(S.del r k).sub S:=λr' k' x h=>by
 simp only[St.del]at h;split at h;·cases h
 ·exact h
variable{S:St}{es:List AV}{G:Qh}{w:World}
theorem Rel.freeze(h:Rel G S w){k g kk:Nat}(hS:S r k=some (.arr kk es,g)) :
  ∃G',G.le G'/\Rel G' (S.del r k) w/\∃L,G.loc r k g=some L/\L.k=kk/\es.length<=L.cap/\L.cap<=maxLen/\(∀i (h:i<es.length),es[i].cells.length=kk)/\
   ∃u:Nat->Nat->Value,(∀i j,i<es.length->j<kk->G'.RM L.block (i*kk+j)=some (u i j))/\(∀i (h:i<es.length) j (h':j<es[i].cells.length),VR G' es[i].cells[j] (u i j)):=by
 obtain⟨L,hL,Q',Vl⟩:=h.obj _ _ _ _ hS;have X8:=Q';obtain⟨Xm,Wa,Sp,hm,UE,U6⟩:=Q';let G':Qh:={ G with RM:=λb o=>if b=L.block/\0<L.cap then (w.cell? ⟨b,o,none⟩)else G.RM b o };have hle:G.le G':=by
  refine⟨⟨rfl,λ_ h=>h,rfl⟩,λb o u e=>?_,λ_ _ _ _ e=>e⟩;show(if b=L.block/\0<L.cap then (w.cell? ⟨b,o,none⟩)else G.RM b o)=some u;split;·exact h.RM _ _ _ e
  ·exact e
 have SE:∀i (hi:i<es.length) j (_:j<kk),∃u,w.cell? ⟨L.block,i*kk+j,none⟩=some u/\∀hq:j<es[i].cells.length,VR G (es[i].cells[j]'hq) u:=by
  intro i hi j hj;obtain⟨u,h1,h2⟩:=X8.cell hi hj;rw[Wa]at h1;exact⟨u,h1,λ_=>h2⟩
 refine⟨G',hle,?_,L,hL,Wa,Sp,hm,UE,λi j=>if h':i<es.length/\j<kk then (SE i h'.1 j h'.2).choose else undef,λi j hi hj=>?_,λi hi j hj=>?_⟩
 ·have hs:=h.sub (FW S r k);refine⟨hs.below,λb o u e=>?_,λr' k' o g' e=>?_,hs.inj,hs.fin,hs.U0⟩
  ·have e':(if b=L.block/\0<L.cap then (w.cell? ⟨b,o,none⟩)else G.RM b o)=some u:=e;split at e';·exact e'
   ·exact h.RM _ _ _ e'
  ·have QI:¬(r'=r/\k'=k):=λhc=>by simp only[St.del]at e;rw[if_pos hc]at e;cases e
   have e0:=FW S r k _ _ _ e;obtain⟨L',q1,q2,q3⟩:=h.obj _ _ _ _ e0;refine⟨L',q1,q2.keep hle (λ_=>rfl),λhc=>⟨(q3 hc).1,λx=>?_⟩⟩
   show(if L'.block=L.block/\0<L.cap then (w.cell? ⟨L'.block,x,none⟩)else G.RM L'.block x)=none;rw[if_neg (λhb=>h.inj _ _ _ _ _ _ _ _ _ _ e0 hS q1 hL hc hb.2 QI hb.1)];exact(q3 hc).2 x
 ·show(if L.block=L.block/\0<L.cap then (w.cell? ⟨L.block,i*kk+j,none⟩)else G.RM L.block (i*kk+j))=some (dite _ _ _);rw[if_pos ⟨rfl,om⟩,dif_pos ⟨hi,hj⟩];exact(SE i hi j hj).choose_spec.1
 ·have Vp:j<kk:=by rw[<-UE i hi];exact hj
  show VR G' _ (dite _ _ _);rw[dif_pos (⟨hi,Vp⟩:i<es.length/\j<kk)];exact((SE i hi j Vp).choose_spec.2 hj).mono hle
def wK(r k g kk:Nat)(es:List AV):AV->AV
 | .sl Um r' k' g' off len=>if r'=r/\k'=k/\g'=g/\Um=kk/\off+len<=es.length then .list ((es.drop off).take len)else .sl Um r' k' g' off len
 | v=>v
def Et(r k g kk:Nat)(es:List AV):AV->AV
 | .agg cs=>.agg (cs.map (wK r k g kk es))
 | v=>wK r k g kk es v
def Wp(r k g kk:Nat)(es:List AV):AV->AV
 | .tuple vs=>.tuple (vs.map (Et r k g kk es))
 | v=>Et r k g kk es v
variable{L:Loc}
section
variable{G G':Qh}{S:St}{w:World}{r k g kk:Nat}{es:List AV}
theorem yL(hle:G.le G')(hL:G.loc r k g=some L)(hk:L.k=kk)(Sp:es.length<=L.cap)(hm:L.cap<=maxLen)(UE:∀i (h:i<es.length),es[i].cells.length=kk)(u:Nat->Nat->Value)(h1:∀i j,i<es.length->j<kk->G'.RM L.block (i*kk+j)=some (u i j))(h2:∀i (h:i<es.length) j (h':j<es[i].cells.length),VR G' es[i].cells[j] (u i j)){v:AV}{x:Value}(hv:VR G v x):VR G' (wK r k g kk es v) x:=by
 cases v with
 | sl Um r' k' g' off len=>
  simp only[wK];split
  ·rename_i hc;obtain⟨rfl,rfl,rfl,rfl,hlen⟩:=hc;cases hv with
   | sl _ _ _ _ _ _ a L' R5 Wn WG Uo ha=>
   obtain rfl:L'=L:=by rw[hL]at R5;exact(Option.some.inj R5).symm
   have hl:((es.drop off).take len).length=len:=by simp;omega
   refine .list _ a len (L'.cap-off) L'.block (off*Um) Um (λi j=>u (off+i) j) hl.symm om om (λhp=>?_) (λi hi=>?_) (λi j hi hj=>?_) (λi hi j hj=>?_);·rw[ha om,hk]
   ·simp only[List.getElem_take,List.getElem_drop];exact UE _ _
   ·have:=h1 (off+i) j om hj;rw[Nat.add_mul,Nat.add_assoc]at this;exact this
   ·simp only[List.getElem_take,List.getElem_drop]at hj ⊢;exact h2 _ _ j hj
  ·exact hv.mono hle
 | _=>exact hv.mono hle
theorem AF(hle:G.le G')(hL:G.loc r k g=some L)(hk:L.k=kk)(Sp:es.length<=L.cap)(hm:L.cap<=maxLen)(UE:∀i (h:i<es.length),es[i].cells.length=kk)(u:Nat->Nat->Value)(h1:∀i j,i<es.length->j<kk->G'.RM L.block (i*kk+j)=some (u i j))(h2:∀i (h:i<es.length) j (h':j<es[i].cells.length),VR G' es[i].cells[j] (u i j)){v:AV}{x:Value}(hv:VR G v x):VR G' (Wp r k g kk es v) x:=by
 have two:∀(v:AV) (x:Value),VR G v x->VR G' (Et r k g kk es v) x:=by
  intro v x hv;cases v with
  | agg cs=>
   cases hv with
   | agg _ xs q1 q2=>
   refine .agg _ _ (by simpa using q1) (λi h h'=>?_);simp only[List.getElem_map];exact yL hle hL hk Sp hm UE u h1 h2 (q2 i (by simpa using h) h')
  | _=>exact yL hle hL hk Sp hm UE u h1 h2 hv
 cases v with
 | tuple vs=>
  cases hv with
  | tuple _ xs q1 q2=>
  refine .tuple _ _ (by simpa using q1) (λi h h'=>?_);simp only[List.getElem_map];exact two _ _ (q2 i (by simpa using h) h')
 | _=>exact two _ _ hv
end
theorem Wk.freeze{v:AV}{S:St}{r k g kk:Nat}{es:List AV}(hS:S r k=some (.arr kk es,g)):Wk v S (Wp r k g kk es v) (S.del r k):=λG w x hr hv=>by obtain⟨G',hle,SQ,L,a1,a2,a3,a4,a5,u,a6,a7⟩:=hr.freeze hS;exact⟨G',hle,SQ,AF hle a1 a2 a3 a4 a5 u a6 a7 hv⟩
theorem Rm.W8{t:Env}{k g kk:Nat}(hS:S r k=some (.arr kk es,g)):Rm t S (λi=>Wp r k g kk es (t i)) (S.del r k):=λn G a w hr ht=>by obtain⟨G',hle,SQ,L,a1,a2,a3,a4,a5,u,a6,a7⟩:=hr.freeze hS;exact⟨G',hle,SQ,ht.1.mono hle,ht.2.1,λi=>AF hle a1 a2 a3 a4 a5 u a6 a7 (ht.2.2 i)⟩
def VW(v v':AV):Prop:=∀(G:Qh) (x:Value),VR G v x->VR G v' x
theorem VW.refl(v:AV):VW v v:=λ_ _ h=>h
theorem VW.Qz(v:AV):VW v .Qz:=λ_ _ _=>.Qz _
theorem VW.nil:VW .nil (.list []):=λ_ _ h=>by cases h;exact .list [] none 0 0 0 0 0 (λ_ _=>undef) rfl om (by simp[maxLen]) (λh=>om) (λi h=>by simp at h) (λi _ h=>om) (λi h=>by simp at h)
theorem VW.agg{cs WI:List AV}(hl:WI.length=cs.length)(h:∀i (h:i<cs.length) (h':i<WI.length),VW cs[i] WI[i]):VW (.agg cs) (.agg WI):=λG x hv=>by
 cases hv with
 | agg _ xs q1 q2=>exact .agg _ _ om (λi h1 h2=>h i om h1 _ _ (q2 i om h2))
theorem VW.tuple{cs WI:List AV}(hl:WI.length=cs.length)(h:∀i (h:i<cs.length) (h':i<WI.length),VW cs[i] WI[i]):VW (.tuple cs) (.tuple WI):=λG x hv=>by
 cases hv with
 | tuple _ xs q1 q2=>exact .tuple _ _ om (λi h1 h2=>h i om h1 _ _ (q2 i om h2))
theorem Wk.of{v v':AV}(h:VW v v'):Wk v S v' S:=λG _ x hr hv=>⟨G,Qh.le.refl G,hr,h G x hv⟩
variable{R:AV->St->Prop}
theorem dz.drop{v:AV}(rg:Nat)(h:dz R v (S.clear rg)):dz R v S:=.wk (Wk.sub (GV S rg)) h
theorem dz.nil{R:AV->St->Prop}{S:St}(h:dz R (.list []) S):dz R .nil S:=.wk (Wk.of VW.nil) h
theorem Rel.V6(hr:Rel G S w)(r k kk:Nat)(hk:0<kk):∃g G',G.le G'/\Rel G' (S.set r k (.arr kk []) g) w/\VR G' (.sl kk r k g 0 0) (.slice none 0 0):=by
 obtain⟨g,hg⟩:=hr.fresh r k
 obtain⟨G',q1,q2,_,q4⟩:=hr.put (r_ w) r k g (.arr kk []) ⟨0,0,kk,0⟩ (λb hb=>by cases hb) (λh=>by simp at h) (.inl hg)
  (λG' hle=>⟨om,rfl,by simp,by simp[maxLen],λi h=>by simp at h,λh=>by simp at h⟩)
 exact⟨g,G',q1,q4,VR.sl (G:=G') kk r k g 0 0 none _ q2 rfl Qy (by simp[maxLen]) (λh=>by simp at h)⟩
theorem Ctr.arg{P:Program}{f:FuncId}{as as':List AV}(hl:as'.length=as.length)(hv:∀i (h:i<as.length) (h':i<as'.length),VW as[i] as'[i])(h:Ctr P f as' S R):Ctr P f as S R:=⟨h.1,λG w vs hr V8=>h.2 G w vs hr ⟨V8.1.trans hl.symm,λi h1 h2=>hv i om h1 G _ (V8.2 i om h2)⟩⟩
end Go.Gg
namespace Go.Gg
abbrev Key:=Nat×Nat
abbrev Eff:=List Key×Option Key
abbrev VA:=Option (Nat×Nat×(Nat->QW×Nat))
def VA.app(e:VA)(g:Nat)(S:St):St:=match e with|none=>S|some (r,k,f)=>S.set r k (f g).1 (f g).2
def VA.key(e:VA):Option Key:=e.map λx=>(x.1,x.2.1)
structure CR where
 v:AV
 rd:List Key
 wr:Option (Nat×Nat×QW×Nat)
def CR.app(u:CR)(S:St):St:=match u.wr with|none=>S|some (r,k,o,g)=>S.set r k o g
def CR.key(u:CR):Option Key:=u.wr.map λx=>(x.1,x.2.1)
def jS(l:List Key)(w:Option Key)(S' S:St):Prop:=(∀p∈l,S' p.1 p.2=S p.1 p.2)/\(∀p,w=some p->S' p.1 p.2=S p.1 p.2)
theorem jS.refl(l:List Key)(w:Option Key)(S:St):jS l w S S:=⟨λ_ _=>rfl,λ_ _=>rfl⟩
theorem jS.trans{l:List Key}{w:Option Key}{S S' To:St}(h:jS l w S S')(h':jS l w S' To):jS l w S To:=⟨λp hp=>(h.1 p hp).trans (h'.1 p hp),λp hp=>(h.2 p hp).trans (h'.2 p hp)⟩
theorem jS.symm{l:List Key}{w:Option Key}{S S':St}(h:jS l w S S'):jS l w S' S:=⟨λp hp=>(h.1 p hp).symm,λp hp=>(h.2 p hp).symm⟩
def UH(rg k:Nat)(u:CR)(o:Op)(e:Operand->AV):Eff:=match o with
 | .load _ x=>(match e x with|.ptr r k _ _ _=>[(r,k)]|_=>[],none)
 | .store _ a _=>([],match e a with|.ptr r k _ _ _=>some (r,k)|_=>none)
 | .alloc _|.box ..|.makeSlice ..|.makeMap ..=>([],some (rg,k))
 | .lookup _ x _ _=>(match e x with|.map r k _=>[(r,k)]|_=>[],none)
 | .mapUpdate _ m _ _=>([],match e m with|.map r k _=>some (r,k)|_=>none)
 | .insert _ m _ _=>([],match e m with|.map r k _=>some (r,k)|_=>none)
 | .buildSlice ..=>(match u.v with|.list _=>([],none)|_=>([],some (rg,k)))
 | .call { callee:=.builtin .append,args:=xs,argTypes:=_ }=>match xs.toList with
  | [b,x]=>(match e x with|.sl _ r k _ _ _=>[(r,k)]|_=>[],match e b with|.sl _ r k _ _ _=>some (r,k)|_=>some (rg,k))
  | _=>([],none)
 | .call { callee:=.builtin .len,args:=xs,argTypes:=_ }=>match xs.toList with
  | [x]=>(match e x with|.map r k _=>[(r,k)]|_=>[],none)
  | _=>([],none)
 | .call { callee:=.value _,args:=_,argTypes:=_ }=>(u.rd,u.key)
 | _=>([],none)
def vBL(P:Program)(T:TypeId)(len:Nat)(idx:List Nat)(es:List AV)(K:AV->Prop):Prop:=
 match td P T with
 | .slice e=>((idx==range len)=true/\es.length=len/\di P e=true/\len*(QM P e).cells.length<=16777216/\(es.all λx=>x.Q_&&(x.cells.length==(QM P e).cells.length))=true)/\K (.list es)
 | _=>False
variable{o:Oper}{S:St}{n:Nat}{P:Program}{t:Env}{T:TypeId}{K:AV->St->Prop}
theorem zK{len:Nat}{parts:Array (Nat×Operand)}(ho:o.op = .buildSlice T len parts)(h:vBL P T len (parts.toList.map (·.1)) (parts.toList.map λp=>ev t p.2) (λv=>K v S)):UR P n o t S K:=by
 intro ro G a w Kc Q hr ht hk;obtain⟨r,hrf⟩:=hr.S6;unfold vBL at h;split at h
 ·rename_i e hd;obtain⟨hc,hK⟩:=h;refine q_ (K:=λv S'=>∃g,v = .sl (QM P e).cells.length r 0 g 0 len/\S'=S.set r 0 (.arr (QM P e).cells.length (parts.toList.map λp=>ev t p.2)) g) ho r 0 ?_ ro G a w Kc Q hr ht ?_;·unfold fp;rw[hd];exact⟨hc,λg=>⟨g,rfl,rfl⟩⟩
  ·rintro v av S' G' w' ⟨g,rfl,rfl⟩ hle SQ hv;have Rr:(S.set r 0 (.arr (QM P e).cells.length (parts.toList.map λp=>ev t p.2)) g) r 0=some (.arr (QM P e).cells.length (parts.toList.map λp=>ev t p.2),g):=by simp[St.set]
   obtain⟨G2,h1,h2,h3⟩:=Wk.freeze (v:=.sl (QM P e).cells.length r 0 g 0 len) Rr G' w' v SQ hv;have e1:Wp r 0 g (QM P e).cells.length (parts.toList.map λp=>ev t p.2) (.sl (QM P e).cells.length r 0 g 0 len) = .list (parts.toList.map λp=>ev t p.2):=by have hl:=hc.2.1;simp only[Wp,Et,wK];rw[if_pos ⟨trivial,trivial,trivial,trivial,om⟩,List.drop_zero,<-hl,List.take_length]
   have e2:(S.set r 0 (.arr (QM P e).cells.length (parts.toList.map λp=>ev t p.2)) g).del r 0=S:=by
    funext r' k';simp only[St.del,St.set];by_cases hh:r'=r/\k'=0;·rw[if_pos hh,hh.1,hh.2,hrf 0]
    ·rw[if_neg hh,if_neg hh]
   rw[e1]at h3;rw[e2]at h2;exact hk v _ S G2 w' hK (hle.trans h1) h2 h3
 ·exact h.elim
def vd(P:Program)(rg:Nat)(u:CR)(d:Option Nat)(o:Op)(e:Operand->AV)(S:St)(K:AV->St->Prop):Prop:=match o with
 | .call { callee:=.value f,args:=xs,argTypes:=_ }=>match e f with
  | .fn (.func g) fs QG=>(∀S',jS u.rd u.key S' S->Ctr P g (fs++(xs.toList.map e++QG)) S' (λv To=>v=u.v/\To=u.app S'))/\K u.v (u.app S)
  | _=>False
 | .buildSlice T len parts=>(match u.v with
  | .list _=>vBL P T len (parts.toList.map (·.1)) (parts.toList.map λp=>e p.2) (λv=>K v S)
  | _=>fp P rg (d.getD 0) T len (parts.toList.map (·.1)) (parts.toList.map λp=>e p.2) S K)
 | _=>bif KI o then vl P rg (d.getD 0) o e S K else vq P o e S (λv=>K v S)
def NF(F:(Operand->AV)->St->(AV->St->Prop)->Prop)(xs:Array Operand)(E:Eff)(e:Operand->AV)(S:St):Prop:=∃(c:Prop) (v:Nat->AV) (ch:VA),(ch.key=none\/ch.key=E.2)/\∀(e':Operand->AV) (S':St),(∀x∈xs,e' x=e x)->jS E.1 E.2 S' S->∀K,F e' S' K↔c/\∀g,K (v g) (ch.app g S')
def SI(F:(AV->Prop)->Prop):Prop:=∃(c:Prop) (v:AV),∀K,F K↔c/\K v
theorem aS:SI (λ_=>False):=⟨False,.Qz,λ_=>by simp⟩
theorem cy(v:AV):SI (λK=>K v):=⟨True,v,λ_=>by simp⟩
variable{A:Prop}
theorem dK{F:(AV->Prop)->Prop}(h:SI F):SI (λK=>A/\F K):=by obtain⟨c,v,h⟩:=h;exact⟨A/\c,v,λK=>by show A/\F K↔_;rw[h K,and_assoc]⟩
theorem GC{F F':(AV->Prop)->Prop}(h:SI F)(h':SI F'):SI (λK=>(A->F K)/\(¬A->F' K)):=by
 obtain⟨c,v,h⟩:=h;obtain⟨c',v',h'⟩:=h';by_cases ha:A;·exact⟨c,v,λK=>by simp[ha,h K]⟩
 ·exact⟨c',v',λK=>by simp[ha,h' K]⟩
theorem IC(op:BinOp)(k:IntKind)(m n:Int):SI (vQ op k m n):=by show SI (λK=>vQ op k m n K);cases op<;>simp only[vQ]<;>repeat (first|exact aS|exact cy _|refine dK ?_)
theorem Gz(op:BinOp)(k:IntKind)(m n:Int):SI (sU op k m n):=by show SI (λK=>sU op k m n K);cases op<;>simp only[sU]<;>repeat (first|exact aS|exact cy _|refine dK ?_)
theorem KB(P:Program)(op:BinOp)(T:TypeId)(cs ds:List AV):SI (λK=>match eK P T with
  | some (.many ks)=>match rz ks cs,rz ks ds with
   | some m,some n=>(match op with|.eql=>K (.bool (decide (m=n)))|.neq=>K (.bool (!decide (m=n)))|_=>False)
   | _,_=>False
  | _=>False):=by
 generalize eK P T=o;rcases o with _|(k|ks);·exact aS
 ·exact aS
 ·simp only[];generalize rz ks cs=a;generalize rz ks ds=b
  cases a<;>cases b<;>first
   | exact aS
   | (cases op<;>first|exact cy _|exact aS)
theorem KC(P:Program)(op:BinOp)(T:TypeId)(x y:Operand)(a b:AV):SI (zH P op T x y a b):=by
 show SI (λK=>zH P op T x y a b K)
 cases a<;>cases b<;>simp only[zH]<;>first
  | exact aS
  | exact KB ..
  | (cases op<;>repeat (first|exact aS|exact cy _|exact IC ..|exact Gz ..|refine dK ?_))
theorem M9(op:UnOp)(a:AV):SI (Y1 op a):=by show SI (λK=>Y1 op a K);cases op<;>cases a<;>simp only[Y1]<;>repeat (first|exact aS|exact cy _|refine dK ?_)
theorem IA(P:Program)(T:TypeId)(a:AV)(S:St):SI (jK P T a S):=by
 show SI (λK=>jK P T a S K);cases a with
 | ptr r k g i off=>
  simp only[jK];cases S r k with
  | none=>exact aS
  | some p=>
   obtain⟨o,g'⟩:=p;cases o<;>simp only[]<;>repeat (first|exact aS|exact cy _|refine dK ?_)
 | Q2 cs=>simp only[jK];exact dK (cy _)
 | _=>exact aS
theorem CY(P:Program)(T:TypeId)(x i:AV):SI (gW P T x i):=by
 show SI (λK=>gW P T x i K);cases i<;>simp only[gW]<;>try exact aS
 cases td P T<;>simp only[]<;>try exact aS
 all_goals (cases x<;>simp only[]<;>repeat (first|exact aS|exact cy _|refine dK ?_))
theorem GA(P:Program)(T:TypeId)(x i:AV):SI (oZ P T x i):=by
 show SI (λK=>oZ P T x i K);cases i<;>simp only[oZ]<;>try exact aS
 cases x<;>simp only[]<;>try exact aS
 all_goals (cases td P T<;>simp only[]<;>repeat (first|exact aS|exact cy _|refine dK ?_))
theorem Gy(P:Program)(T:TypeId)(x:AV)(lo hi mx:Option AV):SI (lk P T x lo hi mx):=by
 show SI (λK=>lk P T x lo hi mx K);unfold lk;cases td P T<;>cases mx<;>simp only[]<;>try exact aS
 cases x<;>simp only[]<;>try exact aS
 ·rename_i es;cases V2 lo 0<;>cases V2 hi es.length<;>simp only[]<;>repeat (first|exact aS|exact cy _|refine dK ?_)
 ·rename_i kk r k g off len;cases V2 lo 0<;>cases V2 hi len<;>simp only[]<;>repeat (first|exact aS|exact cy _|refine dK ?_)
theorem zV(P:Program)(T f:Nat)(x:AV):SI (fy P T f x):=by
 show SI (λK=>fy P T f x K);unfold fy;cases td P T<;>simp only[]<;>try exact aS
 cases x<;>simp only[]<;>repeat (first|exact aS|exact cy _|refine dK ?_)
theorem GB(P:Program)(T f:Nat)(x:AV):SI (qc P T f x):=by
 show SI (λK=>qc P T f x K);cases x<;>simp only[qc]<;>try exact aS
 cases td P T<;>simp only[]<;>repeat (first|exact aS|exact cy _|refine dK ?_)
theorem GD(P:Program)(T:Nat)(l:List (Nat×AV)):SI (nM P T l):=by show SI (λK=>nM P T l K);unfold nM;cases td P T<;>simp only[]<;>repeat (first|exact aS|exact cy _|refine dK ?_)
theorem Kz(P:Program)(T:Nat)(x:AV):SI (uM P T x):=by
 show SI (λK=>uM P T x K);unfold uM;cases td P T<;>simp only[]<;>try exact aS
 cases x<;>simp only[]<;>repeat (first|exact aS|exact cy _|refine dK ?_)
theorem IB(P:Program)(T:Nat)(x:AV)(S:St):SI (jL P T x S):=by
 show SI (λK=>jL P T x S K);by_cases hm:∃r k g,x = .map r k g
 ·obtain⟨r,k,g,rfl⟩:=hm;simp only[jL];cases S r k with
  | none=>exact aS
  | some p=>
   obtain⟨o,g'⟩:=p;cases o<;>simp only[]<;>try exact aS
   cases td P T<;>simp only[]<;>repeat (first|exact aS|exact cy _|refine dK ?_)
 ·have e:(λK=>jL P T x S K)=uM P T x:=by funext K;cases x<;>first|rfl|exact absurd ⟨_,_,_,rfl⟩ hm
  rw[e];exact Kz P T x
theorem Ee(P:Program)(T:Nat)(ok:Bool)(x i:AV)(S:St):SI (iM P T ok x i S):=by
 show SI (λK=>iM P T ok x i S K);cases x with
 | map r k g=>
  simp only[iM];cases S r k with
  | none=>exact aS
  | some p=>
   obtain⟨o,g'⟩:=p;cases o with
   | arr kk es=>exact aS
   | lp r=>exact aS
   | mp sh n f=>
    simp only[];generalize td P T=t';generalize kp sh i=m';cases t'<;>cases m'<;>first|exact aS|exact dK (cy _)
 | _=>exact aS
variable{S':St}{a:AV}
theorem Cu(h:∀r k g,a = .map r k g->S' r k=S r k):jL P T a S'=jL P T a S:=by
 funext K;cases a with
 | map r k g=>have e:=h r k g rfl;simp only[jL,e]
 | _=>rfl
theorem zG{ok:Bool}{i:AV}(h:∀r k g,a = .map r k g->S' r k=S r k):iM P T ok a i S'=iM P T ok a i S:=by
 funext K;cases a with
 | map r k g=>have e:=h r k g rfl;simp only[iM,e]
 | _=>rfl
theorem Ef(P:Program)(T:Nat)(ok:Bool)(x:AV):SI (oN P T ok x):=by
 show SI (λK=>oN P T ok x K);unfold oN;refine dK ?_
 cases x<;>simp only[]<;>first
  | (
    refine GC ?_ ?_;·cases ok<;>exact cy _
    ·repeat (first|exact aS|exact cy _|refine dK ?_))
  | repeat (first|exact aS|exact cy _|refine dK ?_)
variable{e:Operand->AV}{xs:Array Operand}
theorem cI{F:(Operand->AV)->St->(AV->Prop)->Prop}{E:Eff}(hc:∀e' S',(∀x∈xs,e' x=e x)->jS E.1 E.2 S' S->F e' S'=F e S)(h:SI (F e S)) :NF (λe S K=>F e S (λv=>K v S)) xs E e S:=by obtain⟨c,v,h⟩:=h;refine⟨c,λ_=>v,none,.inl rfl,λe' S' he hS K=>?_⟩;show F e' S' (λv=>K v S')↔_;rw[hc e' S' he hS,h];simp[VA.app]
theorem Ct(h:∀r k g i off,a = .ptr r k g i off->S' r k=S r k):jK P T a S'=jK P T a S:=by funext K;cases a<;>simp only[jK];rename_i r k g i off;rw[h r k g i off rfl]
theorem DR(h:∀kk r k g off n,a = .sl kk r k g off n->S' r k=S r k):qL S' a=qL S a:=by cases a<;>simp only[qL];rename_i kk r k g off n;rw[h kk r k g off n rfl]
theorem gy{E:Eff}:NF (λ_ _ _=>False) xs E e S:=⟨False,λ_=>.Qz,none,.inl rfl,λ_ _ _ _ _=>by simp⟩
theorem ID{m i x:Operand}(q1:m∈xs)(q2:i∈xs)(q3:x∈xs):NF (λe S K=>fK P T (e m) (e i) (e x) S K) xs ([],match e m with|.map r k _=>some (r,k)|_=>none) e S:=by
 have W0:∀e':Operand->AV,(∀y∈xs,e' y=e y)->e' m=e m/\e' i=e i/\e' x=e x:=λe' he=>⟨he m q1,he i q2,he x q3⟩;have Tj:(∀(S':St),(∀r k g,e m = .map r k g->S' r k=S r k)->∀K,¬fK P T (e m) (e i) (e x) S' K)->NF (λe S K=>fK P T (e m) (e i) (e x) S K) xs ([],match e m with|.map r k _=>some (r,k)|_=>none) e S:=λhn=>⟨False,λ_=>.Qz,none,.inl rfl,λe' S' he Sc K=>by
   obtain⟨a,b,c⟩:=W0 e' he;simp only[a,b,c,false_and,iff_false];refine hn S' (λr k g hm=>Sc.2 (r,k) ?_) K;simp only[hm]⟩
 by_cases hm:∃r k g,e m = .map r k g
 ·obtain⟨r,k,g,hm⟩:=hm;cases hS:S r k with
  | none=>exact Tj λS' h K hh=>by simp only[hm,fK,h r k g hm,hS]at hh
  | some p=>
   obtain⟨ob,g'⟩:=p;cases ob with
   | arr kk es=>exact Tj λS' h K hh=>by simp only[hm,fK,h r k g hm,hS]at hh
   | lp _=>exact Tj λS' h K hh=>by simp only[hm,fK,h r k g hm,hS]at hh
   | mp sh n f=>
    cases hd:td P T with
    | map kt et=>
     cases hk:kp sh (e i)with
     | none=>exact Tj λS' h K hh=>by simp only[hm,fK,h r k g hm,hS,hd,hk]at hh
     | some ns=>
      refine⟨g'=g/\eK P kt=some sh,λ_=>.Qz,some (r,k,λ_=>(.mp sh (bif (f ns).isSome then n else n+1) (λq=>if q=ns then some (e x)else f q),g)),.inr (by simp[hm,VA.key]),λe' S' he Sc K=>?_⟩;obtain⟨a,b,c⟩:=W0 e' he;have h1:=Sc.2 (r,k) (by simp[hm]);simp only[a,b,c,fK,hm,h1,hS,hd,hk,VA.app,forall_const]
    | _=>exact Tj λS' h K hh=>by simp only[hm,fK,h r k g hm,hS,hd]at hh
 ·refine Tj λS' h K hh=>?_;unfold fK at hh;split at hh;·rename_i r k g hq;exact hm ⟨r,k,g,hq⟩
  ·exact hh
theorem LX(P:Program)(rg:Nat)(u:CR)(d:Option Nat)(o:Op)(e:Operand->AV)(S:St):NF (λe S K=>vd P rg u d o e S K) o.operands (UH rg (d.getD 0) u o e) e S:=by
 cases o with
 | move x=>exact cI (F:=λe _ K=>K (e x)) (λe' S' he _=>by simp only[he x (by simp[Op.operands])]) (cy _)
 | assign x=>exact cI (F:=λe _ K=>K (e x)) (λe' S' he _=>by simp only[he x (by simp[Op.operands])]) (cy _)
 | pick c a b=>
  refine cI (F:=λe _ K=>match e c with|.bool v=>K (bif v then e a else e b)|_=>False) (λe' S' he _=>by simp only[he c (by simp[Op.operands]),he a (by simp[Op.operands]),he b (by simp[Op.operands])]) ?_;cases e c<;>first|exact cy _|exact aS
 | binOp op T x y T'=>exact cI (F:=λe _ K=>zH P op T x y (e x) (e y) K) (λe' S' he _=>by simp only[he x (by simp[Op.operands]),he y (by simp[Op.operands])]) (KC ..)
 | unOp op T x=>exact cI (F:=λe _ K=>Y1 op (e x) K) (λe' S' he _=>by simp only[he x (by simp[Op.operands])]) (M9 ..)
 | convert s T x=>
  refine cI (F:=λe _ K=>match e x,td P T,td P s with|.int _ n,.int k,.int _=>K (.int k (k.wrap n))|_,_,_=>False) (λe' S' he _=>by simp only[he x (by simp[Op.operands])]) ?_;generalize e x=a;generalize td P T=b;generalize td P s=c;cases a<;>try exact aS
  cases b<;>try exact aS
  cases c<;>first|exact cy _|exact aS
 | makeInterface T x=>
  exact cI (F:=λe _ K=>(match td P T with|.iface|.other=>False|_=>True)/\K (.iface T (e x))) (λe' S' he _=>by simp only[he x (by simp[Op.operands])]) (dK (cy _))
 | makeFunc fn first QG=>
  refine cI (F:=λe _ K=>K (.fn fn (first.toList.map e) (QG.toList.map e))) (λe' S' he _=>?_) (cy _);have h1:first.toList.map e'=first.toList.map e:=map_congr_left λx hx=>he x (by simp[Op.operands]at hx ⊢;exact .inl hx);have h2:QG.toList.map e'=QG.toList.map e:=map_congr_left λx hx=>he x (by simp[Op.operands]at hx ⊢;exact .inr hx);simp only[h1,h2]
 | build T parts=>
  refine cI (F:=λe _ K=>nM P T (parts.toList.map λp=>(p.1,e p.2)) K) (λe' S' he _=>?_) (GD ..);have h1:(parts.toList.map λp=>(p.1,e' p.2))=parts.toList.map λp=>(p.1,e p.2):=map_congr_left λp hp=>by rw[he p.2 (by simp[Op.operands]at hp ⊢;exact⟨_,hp⟩)]
  simp only[h1]
 | load T x=>
  refine cI (F:=λe S K=>jK P T (e x) S K) (λe' S' he hS=>?_) (IA ..);have h1:=he x (by simp[Op.operands]);simp only[h1];rw[Ct (S:=S)];intro r k g i off hx;have h2:=hS.1 (r,k);simp only[UH,hx]at h2;exact h2 Qy
 | lookup T x i ok=>
  refine cI (F:=λe S K=>iM P T ok (e x) (e i) S K) (λe' S' he hS=>?_) (Ee ..);have h1:=he x (by simp[Op.operands]);have h2:=he i (by simp[Op.operands]);simp only[h1,h2];rw[zG (S:=S)];intro r k g hx;have h2:=hS.1 (r,k);simp only[UH,hx]at h2;exact h2 Qy
 | makeMap T r=>
  show NF (λe S K=>nL P rg (d.getD 0) T (r.map e) S K) _ _ _ _;have hr:∀e':Operand->AV,(∀x∈(Op.makeMap T r).operands,e' x=e x)->r.map e'=r.map e:=λe' he=>by
   cases r with
   | none=>rfl
   | some y=>simp only[map_some,he y (by simp[Op.operands])]
  unfold nL;cases td P T with
  | map kt et=>
   simp only[];cases eK P kt with
   | none=>exact gy
   | some sh=>
    refine⟨(match r.map e with|none=>True|some (.int _ _)=>True|_=>False),λg=>.map rg (d.getD 0) g,some (rg,d.getD 0,λg=>(.mp sh 0 (λ_=>none),g)),.inr rfl,λe' S' he Sc K=>?_⟩;simp only[hr e' he,VA.app];exact Iff.rfl
  | _=>exact gy
 | mapUpdate T m i x=>exact ID (by simp[Op.operands]) (by simp[Op.operands]) (by simp[Op.operands])
 | insert T m i x=>exact ID (by simp[Op.operands]) (by simp[Op.operands]) (by simp[Op.operands])
 | nilCheck x=>
  exact cI (F:=λe _ K=>(match e x with|.ptr ..|.Q2 _=>True|.fn (.func _) _ _=>True|_=>False)/\K (e x)) (λe' S' he _=>by simp only[he x (by simp[Op.operands])]) (dK (cy _))
 | fieldAddr T x f=>exact cI (F:=λe _ K=>fy P T f (e x) K) (λe' S' he _=>by simp only[he x (by simp[Op.operands])]) (zV ..)
 | field T x f=>exact cI (F:=λe _ K=>qc P T f (e x) K) (λe' S' he _=>by simp only[he x (by simp[Op.operands])]) (GB ..)
 | indexAddr T x i=>exact cI (F:=λe _ K=>gW P T (e x) (e i) K) (λe' S' he _=>by simp only[he x (by simp[Op.operands]),he i (by simp[Op.operands])]) (CY ..)
 | index T x i=>exact cI (F:=λe _ K=>oZ P T (e x) (e i) K) (λe' S' he _=>by simp only[he x (by simp[Op.operands]),he i (by simp[Op.operands])]) (GA ..)
 | slice T x lo hi mx=>
  refine cI (F:=λe _ K=>lk P T (e x) (lo.map e) (hi.map e) (mx.map e) K) (λe' S' he _=>?_) (Gy ..);have h1:lo.map e'=lo.map e:=by cases lo with|none=>rfl|some y=>simp only[map_some,he y (by simp[Op.operands])]
  have h2:hi.map e'=hi.map e:=by cases hi with|none=>rfl|some y=>simp only[map_some,he y (by simp[Op.operands])]
  have h3:mx.map e'=mx.map e:=by cases mx with|none=>rfl|some y=>simp only[map_some,he y (by simp[Op.operands])]
  simp only[h1,h2,h3,he x (by simp[Op.operands])]
 | extract x i=>
  refine cI (F:=λe _ K=>match e x with|.tuple vs=>i<vs.length/\K (vs.getD i .Qz)|_=>False) (λe' S' he _=>by simp only[he x (by simp[Op.operands])]) ?_;cases e x<;>first|exact dK (cy _)|exact aS
 | typeAssert x a T ok=>exact cI (F:=λe _ K=>oN P T ok (e x) K) (λe' S' he _=>by simp only[he x (by simp[Op.operands])]) (Ef ..)
 | alloc T=>exact⟨di P T=true,λg=>.ptr rg (d.getD 0) g 0 0,some (rg,d.getD 0,λg=>(.arr (QM P T).cells.length [QM P T],g)),.inr rfl,λ_ _ _ _ _=>Iff.rfl⟩
 | box T x=>
  refine⟨(e x).Q_=true/\0<(e x).cells.length,λg=>.ptr rg (d.getD 0) g 0 0,some (rg,d.getD 0,λg=>(.arr (e x).cells.length [e x],g)),.inr rfl,λe' S' he _ K=>?_⟩;show(((e' x).Q_=true/\0<(e' x).cells.length)/\∀g,K (.ptr rg (d.getD 0) g 0 0) (S'.set rg (d.getD 0) (.arr (e' x).cells.length [e' x]) g))↔_;rw[he x (by simp[Op.operands])];exact Iff.rfl
 | store T a x=>
  show NF (λe S K=>lj P T (e a) (e x) S K) _ _ _ _;cases ha:e a with
  | ptr r k g i off=>
   cases hS:S r k with
   | none=>
    refine⟨False,λ_=>.Qz,none,.inl rfl,λe' S' he Sc K=>?_⟩;have h1:=Sc.2 (r,k) (by simp[UH,ha]);simp only[he a (by simp[Op.operands]),lj,ha,h1,hS,false_and]
   | some p=>
    obtain⟨ob,g'⟩:=p;cases ob with
    | arr kk es=>
     refine⟨g'=g/\i<es.length/\0<sz P T/\(e x).cells.length=sz P T/\off+sz P T<=kk/\fo (e x).cells=true,λ_=>.Qz,some (r,k,λ_=>(.arr kk (es.set i (TN (es.getD i .Qz) off (e x))),g)),.inr (by simp[UH,ha,VA.key]),λe' S' he Sc K=>?_⟩;have h1:=Sc.2 (r,k) (by simp[UH,ha]);simp only[he a (by simp[Op.operands]),he x (by simp[Op.operands]),lj,ha,h1,hS,VA.app,forall_const]
    | mp sh n m=>
     refine⟨False,λ_=>.Qz,none,.inl rfl,λe' S' he Sc K=>?_⟩;have h1:=Sc.2 (r,k) (by simp[UH,ha]);simp only[he a (by simp[Op.operands]),lj,ha,h1,hS,false_and]
    | lp _=>
     refine⟨False,λ_=>.Qz,none,.inl rfl,λe' S' he Sc K=>?_⟩;have h1:=Sc.2 (r,k) (by simp[UH,ha]);simp only[he a (by simp[Op.operands]),lj,ha,h1,hS,false_and]
  | _=>
   refine⟨False,λ_=>.Qz,none,.inl rfl,λe' S' he Sc K=>?_⟩;simp only[he a (by simp[Op.operands]),lj,ha,false_and]
 | makeSlice T l c=>
  show NF (λe S K=>vP P rg (d.getD 0) T (e l) (e c) S K) _ _ _ _;unfold vP;cases hd:td P T with
  | slice el=>
   cases hl:e l with
   | int k1 n=>
    cases hc:e c with
    | int k2 m=>
     refine⟨(0<=n/\n<=m/\(UQ P el:Int)*m<=281474976710656/\m<=9223372036854775807)/\di P el=true,λg=>.sl (QM P el).cells.length rg (d.getD 0) g 0 n.toNat,some (rg,d.getD 0,λg=>(.arr (QM P el).cells.length (List.replicate n.toNat (QM P el)),g)),.inr rfl,λe' S' he Sc K=>?_⟩;simp only[he l (by simp[Op.operands]),he c (by simp[Op.operands]),hl,hc,VA.app,and_assoc]
    | _=>exact⟨False,λ_=>.Qz,none,.inl rfl,λe' S' he Sc K=>by simp only[he l (by simp[Op.operands]),he c (by simp[Op.operands]),hl,hc,false_and]⟩
   | _=>exact⟨False,λ_=>.Qz,none,.inl rfl,λe' S' he Sc K=>by simp only[he l (by simp[Op.operands]),hl,false_and]⟩
  | _=>exact gy
 | buildSlice T len parts=>
  have Tj:NF (λe S K=>fp P rg (d.getD 0) T len (parts.toList.map (·.1)) (parts.toList.map λp=>e p.2) S K) (Op.buildSlice T len parts).operands ([],some (rg,d.getD 0)) e S:=by
   unfold fp;cases hd:td P T with
   | slice el=>
    refine⟨((parts.toList.map (·.1))==range len)=true/\(parts.toList.map λp=>e p.2).length=len/\di P el=true/\len*(QM P el).cells.length<=16777216/\((parts.toList.map λp=>e p.2).all λx=>x.Q_&&(x.cells.length==(QM P el).cells.length))=true,
     λg=>.sl (QM P el).cells.length rg (d.getD 0) g 0 len,some (rg,d.getD 0,λg=>(.arr (QM P el).cells.length (parts.toList.map λp=>e p.2),g)),.inr rfl,λe' S' he Sc K=>?_⟩
    have h1:(parts.toList.map λp=>e' p.2)=parts.toList.map λp=>e p.2:=map_congr_left λp hp=>he p.2 (by simp[Op.operands]at hp ⊢;exact⟨_,hp⟩);simp only[h1,VA.app]
   | _=>exact gy
  have U7:NF (λe S K=>vBL P T len (parts.toList.map (·.1)) (parts.toList.map λp=>e p.2) (λv=>K v S)) (Op.buildSlice T len parts).operands ([],none) e S:=by
   refine cI (F:=λe _ K=>vBL P T len (parts.toList.map (·.1)) (parts.toList.map λp=>e p.2) K) (λe' S' he _=>?_) ?_;·have h1:(parts.toList.map λp=>e' p.2)=parts.toList.map λp=>e p.2:=map_congr_left λp hp=>he p.2 (by simp[Op.operands]at hp ⊢;exact⟨_,hp⟩);simp only[h1]
   ·unfold vBL;cases td P T<;>first|exact dK (cy _)|exact aS
  obtain⟨uv,rd,wr⟩:=u;cases uv<;>first|exact U7|exact Tj
 | call c=>
  obtain⟨callee,xs,ts⟩:=c;cases callee with
  | invoke r m=>exact gy
  | value f=>
   show NF (λe S K=>match e f with
    | .fn (.func g) fs QG=>(∀S',jS u.rd u.key S' S->Ctr P g (fs++(xs.toList.map e++QG)) S' (λv To=>v=u.v/\To=u.app S'))/\K u.v (u.app S)
    | _=>False) _ _ _ _
   have hx:∀e':Operand->AV,(∀x∈Op.operands (.call { callee:=.value f,args:=xs,argTypes:=ts }),e' x=e x)->e' f=e f/\xs.toList.map e'=xs.toList.map e:=λe' he=>by refine⟨he f (by simp[Op.operands,Call.operands]),map_congr_left λx hx=>he x ?_⟩;simp only[Op.operands,Call.operands];simp at hx ⊢;exact .inr hx
   generalize hf:e f=ef;by_cases hq:∃g fs QG,ef = .fn (.func g) fs QG
   ·obtain⟨g,fs,QG,rfl⟩:=hq;refine⟨∀S',jS u.rd u.key S' S->Ctr P g (fs++(xs.toList.map e++QG)) S' (λv To=>v=u.v/\To=u.app S'),λ_=>u.v,u.wr.map (λx=>(x.1,x.2.1,λ_=>(x.2.2.1,x.2.2.2))),?_,λe' S' he Sc K=>?_⟩;·right;show _=u.key;unfold CR.key VA.key;cases u.wr<;>rfl
    ·obtain⟨h1,h2⟩:=hx e' he;simp only[h1,h2,hf];have hA:∀X:St,jS u.rd u.key X S'↔jS u.rd u.key X S:=λX=>⟨λh=>h.trans Sc,λh=>h.trans Sc.symm⟩;have hB:∀g,VA.app (u.wr.map (λx=>(x.1,x.2.1,λ_=>(x.2.2.1,x.2.2.2)))) g S'=u.app S':=λg=>by unfold CR.app VA.app;cases u.wr<;>rfl
     simp only[hA,hB,forall_const]
   ·refine⟨False,λ_=>.Qz,none,.inl rfl,λe' S' he Sc K=>?_⟩;obtain⟨h1,h2⟩:=hx e' he;simp only[h1,hf,false_and,iff_false];split;·rename_i g fs QG;exact λ_=>hq ⟨_,_,_,rfl⟩
    ·simp
  | builtin b=>
   obtain⟨l,rfl⟩:∃l:List Operand,xs=l.toArray:=⟨xs.toList,by simp⟩;obtain⟨ts,rfl⟩:∃l:List TypeId,ts=l.toArray:=⟨ts.toList,by simp⟩;cases b with
   | append=>
    rcases l with _|⟨b,_|⟨x,_|⟨_,_⟩⟩⟩<;>try exact gy
    rcases ts with _|⟨T,_|⟨T',_|⟨_,_⟩⟩⟩<;>try exact gy
    show NF (λe S K=>T=T'/\fi P rg (d.getD 0) T (e b) (e x) S K) _ _ _ _;have hE:UH rg (d.getD 0) u (.call { callee:=.builtin .append,args:=[b,x].toArray,argTypes:=[T,T'].toArray }) e=(match e x with|.sl _ r k _ _ _=>[(r,k)]|_=>[],match e b with|.sl _ r k _ _ _=>some (r,k)|_=>some (rg,d.getD 0)):=rfl;rw[hE];have W0:∀e':Operand->AV,(∀y∈Op.operands (.call { callee:=.builtin .append,args:=[b,x].toArray,argTypes:=[T,T'].toArray }),e' y=e y)->e' b=e b/\e' x=e x:=λe' he=>⟨he b (by simp[Op.operands,Call.operands]),he x (by simp[Op.operands,Call.operands])⟩
    have Tj:(∀(e':Operand->AV) (S':St),(∀y∈Op.operands (.call { callee:=.builtin .append,args:=[b,x].toArray,argTypes:=[T,T'].toArray }),e' y=e y)->jS (match e x with|.sl _ r k _ _ _=>[(r,k)]|_=>[]) (match e b with|.sl _ r k _ _ _=>some (r,k)|_=>some (rg,d.getD 0)) S' S->∀K,¬(T=T'/\fi P rg (d.getD 0) T (e' b) (e' x) S' K))->
      NF (λe S K=>T=T'/\fi P rg (d.getD 0) T (e b) (e x) S K) (Op.operands (.call { callee:=.builtin .append,args:=[b,x].toArray,argTypes:=[T,T'].toArray })) (match e x with|.sl _ r k _ _ _=>[(r,k)]|_=>[],match e b with|.sl _ r k _ _ _=>some (r,k)|_=>some (rg,d.getD 0)) e S:=
     λh=>⟨False,λ_=>.Qz,none,.inl rfl,λe' S' he Sc K=>by simp only[false_and,iff_false];exact h e' S' he Sc K⟩
    have UA:∀S',jS (match e x with|.sl _ r k _ _ _=>[(r,k)]|_=>[]) (match e b with|.sl _ r k _ _ _=>some (r,k)|_=>some (rg,d.getD 0)) S' S->qL S' (e x)=qL S (e x):=λS' Sc=>DR λkk r k g off n hx=>by have:=Sc.1 (r,k);simp only[hx]at this;exact this Qy
    cases hd:td P T with
    | slice el=>
     cases hv:qL S (e x)with
     | none=>
      exact Tj λe' S' he Sc K h=>by obtain⟨h1,h2⟩:=W0 e' he;simp only[fi,hd,h2,UA S' Sc,hv]at h;exact h.2
     | some ys=>
      cases hb:e b with
      | nil=>
       refine⟨T=T'/\(di P el=true/\(ys.all λx=>fo x.cells&&(x.cells.length==(QM P el).cells.length))=true)/\ys.length*UQ P el<=140737488355328/\ys.length<=9223372036854775807,
        λg=>.sl (QM P el).cells.length rg (d.getD 0) g 0 ys.length,some (rg,d.getD 0,λg=>(.arr (QM P el).cells.length ys,g)),.inr rfl,λe' S' he Sc K=>?_⟩
       obtain⟨h1,h2⟩:=W0 e' he;rw[hb]at h1;have h3:=UA S' (by rw[hb];exact Sc);simp only[fi,hd,h2,h3,hv,h1,VA.app,and_assoc]
      | sl kk r k' g off n=>
       cases hS:S r k' with
       | none=>
        exact hb▸Tj λe' S' he Sc K h=>by obtain⟨h1,h2⟩:=W0 e' he;have h4:=Sc.2 (r,k') (by simp only[hb]);simp only[fi,hd,h2,UA S' Sc,hv,h1,hb,h4,hS]at h;exact h.2.2
       | some p=>
        obtain⟨ob,g'⟩:=p;cases ob with
        | mp sh a m=>
         exact hb▸Tj λe' S' he Sc K h=>by obtain⟨h1,h2⟩:=W0 e' he;have h4:=Sc.2 (r,k') (by simp only[hb]);simp only[fi,hd,h2,UA S' Sc,hv,h1,hb,h4,hS]at h;exact h.2.2
        | lp _=>
         exact hb▸Tj λe' S' he Sc K h=>by obtain⟨h1,h2⟩:=W0 e' he;have h4:=Sc.2 (r,k') (by simp only[hb]);simp only[fi,hd,h2,UA S' Sc,hv,h1,hb,h4,hS]at h;exact h.2.2
        | arr Um es=>
         refine⟨T=T'/\(di P el=true/\(ys.all λx=>fo x.cells&&(x.cells.length==(QM P el).cells.length))=true)/\(g'=g/\off=0/\Um=kk/\kk=(QM P el).cells.length/\n=es.length)/\((es.length+ys.length)*UQ P el<=140737488355328/\es.length+ys.length<=9223372036854775807),
          λg=>.sl kk r k' g 0 (es.length+ys.length),some (r,k',λg=>(.arr kk (es++ys),g)),.inr rfl,λe' S' he Sc K=>?_⟩
         obtain⟨h1,h2⟩:=W0 e' he;rw[hb]at h1;have h3:=UA S' (by rw[hb];exact Sc);have h4:=Sc.2 (r,k') rfl;simp only[fi,hd,h2,h3,hv,h1,h4,hS,VA.app,and_assoc]
      | _=>
       exact hb▸Tj λe' S' he Sc K h=>by obtain⟨h1,h2⟩:=W0 e' he;simp only[fi,hd,h2,UA S' Sc,hv,h1,hb]at h;exact h.2.2
    | _=>
     exact Tj λe' S' he Sc K h=>by simp only[fi,hd]at h;exact h.2
   | len=>
    rcases l with _|⟨x,_|⟨_,_⟩⟩<;>try exact gy
    rcases ts with _|⟨T,_|⟨_,_⟩⟩<;>try exact gy
    refine cI (F:=λe S K=>jL P T (e x) S K) (λe' S' he hS=>?_) (IB ..);have h1:=he x (by simp[Op.operands,Call.operands]);simp only[h1];rw[Cu (S:=S)];intro r k g hx;have h2:=hS.1 (r,k);simp only[UH,hx]at h2;exact h2 Qy
   | max=>
    rcases l with _|⟨x,_|⟨y,_|⟨_,_⟩⟩⟩<;>try exact gy
    refine cI (F:=λe _ K=>(match e x,e y with|.int k m,.int _ n=>K (.int k (if m<n then n else m))|_,_=>False)) (λe' S' he _=>by simp only[he x (by simp[Op.operands,Call.operands]),he y (by simp[Op.operands,Call.operands])]) ?_;generalize e x=a;generalize e y=b;cases a<;>cases b<;>first|exact cy _|exact aS
   | min=>
    rcases l with _|⟨x,_|⟨y,_|⟨z,_|⟨_,_⟩⟩⟩⟩<;>try exact gy
    ·refine cI (F:=λe _ K=>(match e x,e y with|.int k m,.int _ n=>K (.int k (if n<m then n else m))|_,_=>False)) (λe' S' he _=>by simp only[he x (by simp[Op.operands,Call.operands]),he y (by simp[Op.operands,Call.operands])]) ?_;generalize e x=a;generalize e y=b;cases a<;>cases b<;>first|exact cy _|exact aS
    ·refine cI (F:=λe _ K=>(match e x,e y,e z with|.int k m,.int _ n,.int _ q=>K (.int k (if q<(if n<m then n else m)then q else (if n<m then n else m)))|_,_,_=>False)) (λe' S' he _=>by simp only[he x (by simp[Op.operands,Call.operands]),he y (by simp[Op.operands,Call.operands]),he z (by simp[Op.operands,Call.operands])]) ?_;generalize e x=a;generalize e y=b;generalize e z=c;cases a<;>try exact aS
     cases b<;>try exact aS
     cases c<;>first|exact cy _|exact aS
   | _=>exact gy
 | _=>exact gy
abbrev WE:=Nat×Nat×QW×Nat
def gJ:List WE->St->St
 | [],S=>S
 | x::m,S=>(gJ m S).set x.1 x.2.1 x.2.2.1 x.2.2.2
abbrev qz:=List Key×List Key
abbrev YO:=Nat->Nat
structure S9 where
 v:YO->AV
 rd:List Key
 wk:List Key
 wr:YO->List WE
 pl:Bool
def bU(l:List Key)(S' S:St):Prop:=∀p∈l,S' p.1 p.2=S p.1 p.2
theorem bU.refl(l:List Key)(S:St):bU l S S:=λ_ _=>rfl
theorem bU.trans{l:List Key}{S S' To:St}(h:bU l S S')(h':bU l S' To):bU l S To:=λp hp=>(h p hp).trans (h' p hp)
theorem bU.symm{l:List Key}{S S':St}(h:bU l S S'):bU l S' S:=λp hp=>(h p hp).symm
variable{k g:Nat}
theorem H6{r r' k' g':Nat}{o o':QW}(h:¬(r=r'/\k=k')):(S.set r k o g).set r' k' o' g'=(S.set r' k' o' g').set r k o g:=by
 funext x y;simp only[St.set];by_cases h1:x=r'/\y=k';·rw[if_pos h1,if_neg (λh2=>h ⟨h2.1.symm.trans h1.1,h2.2.symm.trans h1.2⟩),if_pos h1]
 ·rw[if_neg h1,if_neg h1]
theorem Du{x:WE}:∀ {m:List WE} {S:St},(∀y∈m,¬(x.1=y.1/\x.2.1=y.2.1))->gJ m (S.set x.1 x.2.1 x.2.2.1 x.2.2.2)=(gJ m S).set x.1 x.2.1 x.2.2.1 x.2.2.2
 | [],_,_=>rfl
 | y::m,S,h=>by have h1:=h y Qy;show(gJ m (S.set x.1 x.2.1 x.2.2.1 x.2.2.2)).set y.1 y.2.1 y.2.2.1 y.2.2.2=((gJ m S).set y.1 y.2.1 y.2.2.1 y.2.2.2).set x.1 x.2.1 x.2.2.1 x.2.2.2;rw[Du (λz hz=>h z (by simp[hz])),H6 h1]
theorem AU{b:List WE}{S:St}:∀ {a:List WE},(∀x∈a,∀y∈b,¬(x.1=y.1/\x.2.1=y.2.1))->gJ b (gJ a S)=gJ a (gJ b S)
 | [],_=>rfl
 | x::a,h=>by show gJ b ((gJ a S).set x.1 x.2.1 x.2.2.1 x.2.2.2)=(gJ a (gJ b S)).set x.1 x.2.1 x.2.2.1 x.2.2.2;rw[Du (λy hy=>h x Qy y hy),AU (λz hz y hy=>h z (by simp[hz]) y hy)]
theorem oC{l:List Key}{S:St}:∀ {m:List WE},(∀x∈m,(x.1,x.2.1)∉l)->bU l (gJ m S) S
 | [],_=>bU.refl l S
 | x::m,h=>λp hp=>by
  show(if p.1=x.1/\p.2=x.2.1 then some (x.2.2.1,x.2.2.2)else gJ m S p.1 p.2)=S p.1 p.2;rw[if_neg (λhc=>h x Qy (by
   have:p=(x.1,x.2.1):=Prod.ext hc.1 hc.2;rw[<-this];exact hp))]
  exact oC (λy hy=>h y (by simp[hy])) p hp
def Vx:CR:=⟨.Qz,[],none⟩
def lcr:CR:=⟨.list [],[],none⟩
def Ik(u:S9):Op->Bool
 | .makeSlice ..=>u.pl
 | .call { callee:=.builtin .append,.. }=>u.pl
 | _=>false
def vPL(P:Program)(rg:Nat)(u:S9)(d:Option Nat)(o:Op)(e:Operand->AV)(S:St)(K:AV->St->Prop):Prop:=match u.wk with
 | []=>(∀r S,vd P r Vx d o e S (λv S'=>∃kk g es,v = .sl kk r (d.getD 0) g 0 es.length/\S'=S.set r (d.getD 0) (.arr kk es) g/\VW (.list es) (u.v (λ_=>0))))/\K (u.v (λ_=>0)) S
 | _::_=>((∀γ,∀x∈u.wr γ,(x.1,x.2.1)∈u.wk)/\∀S',bU u.rd S' S->bU u.wk S' S->vd P rg Vx d o e S' (λv To=>dz (λv' S3=>∃γ,v'=u.v γ/\S3=gJ (u.wr γ) S') v To))/\∀γ,K (u.v γ) (gJ (u.wr γ) S)
def wi(rg k:Nat)(u:S9)(o:Op)(e:Operand->AV):qz:=match o with
 | .call { callee:=.value _,args:=_,argTypes:=_ }=>(u.rd,u.wk)
 | .buildSlice ..=>([],bif u.pl then []else [(rg,k)])
 | _=>((UH rg k Vx o e).1,(UH rg k Vx o e).2.toList)
def nw(rg k:Nat)(u:S9)(o:Op)(e:Operand->AV):qz:=bif Ik u o then (u.rd,u.wk)else wi rg k u o e
def Bf(P:Program)(rg:Nat)(u:S9)(d:Option Nat)(o:Op)(e:Operand->AV)(S:St)(K:AV->St->Prop):Prop:=match o with
 | .call { callee:=.value f,args:=xs,argTypes:=_ }=>match e f with
  | .fn (.func g) fs QG=>((∀γ,∀x∈u.wr γ,(x.1,x.2.1)∈u.wk)/\∀S',bU u.rd S' S->bU u.wk S' S->Ctr P g (fs++(xs.toList.map e++QG)) S' (λv To=>∃γ,v=u.v γ/\To=gJ (u.wr γ) S'))/\∀γ,K (u.v γ) (gJ (u.wr γ) S)
  | _=>False
 | .buildSlice T len parts=>vd P rg (bif u.pl then lcr else Vx) d (.buildSlice T len parts) e S K
 | o=>vd P rg Vx d o e S K
def WO(P:Program)(rg:Nat)(u:S9)(d:Option Nat)(o:Op)(e:Operand->AV)(S:St)(K:AV->St->Prop):Prop:=bif Ik u o then vPL P rg u d o e S K else Bf P rg u d o e S K
def NF2(F:(Operand->AV)->St->(AV->St->Prop)->Prop)(xs:Array Operand)(E:qz)(e:Operand->AV)(S:St):Prop:=∃(c:Prop) (v:YO->AV) (ch:YO->List WE),(c->∀γ,∀x∈ch γ,(x.1,x.2.1)∈E.2)/\∀(e':Operand->AV) (S':St),(∀x∈xs,e' x=e x)->bU E.1 S' S->bU E.2 S' S->∀K,F e' S' K↔c/\∀γ,K (v γ) (gJ (ch γ) S')
theorem NF.to2{F:(Operand->AV)->St->(AV->St->Prop)->Prop}{l:List Key}{w:Option Key}(h:NF F xs (l,w) e S):NF2 F xs (l,w.toList) e S:=by
 obtain⟨c,v,ch,hk,hF⟩:=h;refine⟨c,λγ=>v (γ 0),λγ=>match ch with|none=>[]|some (r,k,f)=>[(r,k,(f (γ 0)).1,(f (γ 0)).2)],λ_ γ x hx=>?_,λe' S' he h1 h2 K=>?_⟩
 ·cases ch with
  | none=>simp at hx
  | some y=>
   obtain⟨r,k,f⟩:=y;obtain rfl:x=(r,k,(f (γ 0)).1,(f (γ 0)).2):=by simpa using hx
   rcases hk with hk|hk;·cases hk
   ·rw[<-(show some (r,k)=w from hk)];simp
 ·rw[hF e' S' he ⟨h1,λp hp=>h2 p (show p∈w.toList by rw[show w=some p from hp];simp)⟩ K];refine and_congr_right λ_=>⟨λh γ=>?_,λh g=>?_⟩;·have:=h (γ 0);cases ch<;>exact this
  ·have:=h (λ_=>g)
   cases ch<;>exact this
variable{u:S9}{rg:Nat}{d:Option Nat}
theorem tV{o:Op}{c:CR}(h1:∀e S K,Bf P rg u d o e S K=vd P rg c d o e S K)(h2:wi rg (d.getD 0) u o e=((UH rg (d.getD 0) c o e).1,(UH rg (d.getD 0) c o e).2.toList)) :NF2 (λe S K=>Bf P rg u d o e S K) o.operands (wi rg (d.getD 0) u o e) e S:=by
 have h3:(λ(e:Operand->AV) (S:St) (K:AV->St->Prop)=>Bf P rg u d o e S K)=λe S K=>vd P rg c d o e S K:=by funext e S K;exact h1 e S K
 rw[h2,h3];exact NF.to2 (LX P rg c d o e S)
theorem KD(P:Program)(rg:Nat)(u:S9)(d:Option Nat)(o:Op)(e:Operand->AV)(S:St):NF2 (λe S K=>Bf P rg u d o e S K) o.operands (wi rg (d.getD 0) u o e) e S:=by
 cases o with
 | buildSlice T len parts=>
  obtain⟨uv,rd,wk,wr,pl⟩:=u;cases pl;·exact tV (c:=Vx) (λ_ _ _=>rfl) rfl
  ·exact tV (c:=lcr) (λ_ _ _=>rfl) rfl
 | call c=>
  obtain⟨callee,xs,ts⟩:=c;cases callee with
  | invoke r m=>exact tV (c:=Vx) (λ_ _ _=>rfl) rfl
  | builtin b=>exact tV (c:=Vx) (λ_ _ _=>rfl) rfl
  | value f=>
   show NF2 (λe S K=>match e f with
    | .fn (.func g) fs QG=>((∀γ,∀x∈u.wr γ,(x.1,x.2.1)∈u.wk)/\∀S',bU u.rd S' S->bU u.wk S' S->Ctr P g (fs++(xs.toList.map e++QG)) S' (λv To=>∃γ,v=u.v γ/\To=gJ (u.wr γ) S'))/\∀γ,K (u.v γ) (gJ (u.wr γ) S)
    | _=>False) _ (u.rd,u.wk) _ _
   have hx:∀e':Operand->AV,(∀x∈Op.operands (.call { callee:=.value f,args:=xs,argTypes:=ts }),e' x=e x)->e' f=e f/\xs.toList.map e'=xs.toList.map e:=λe' he=>by refine⟨he f (by simp[Op.operands,Call.operands]),map_congr_left λx hx=>he x ?_⟩;simp only[Op.operands,Call.operands];simp at hx ⊢;exact .inr hx
   generalize hf:e f=ef;by_cases hq:∃g fs QG,ef = .fn (.func g) fs QG;·obtain⟨g,fs,QG,rfl⟩:=hq;refine⟨(∀γ,∀x∈u.wr γ,(x.1,x.2.1)∈u.wk)/\∀S',bU u.rd S' S->bU u.wk S' S->Ctr P g (fs++(xs.toList.map e++QG)) S' (λv To=>∃γ,v=u.v γ/\To=gJ (u.wr γ) S'),u.v,u.wr,λhc=>hc.1,λe' S' he Xq W5 K=>?_⟩;obtain⟨h1,h2⟩:=hx e' he;simp only[h1,h2,hf];have hA:∀X:St,bU u.rd X S'↔bU u.rd X S:=λX=>⟨λh=>h.trans Xq,λh=>h.trans Xq.symm⟩;have hB:∀X:St,bU u.wk X S'↔bU u.wk X S:=λX=>⟨λh=>h.trans W5,λh=>h.trans W5.symm⟩;simp only[hA,hB]
   ·refine⟨False,λ_=>.Qz,λ_=>[],λh=>h.elim,λe' S' he Xq W5 K=>?_⟩;obtain⟨h1,h2⟩:=hx e' he;simp only[h1,hf,false_and,iff_false];split;·rename_i g fs QG;exact λ_=>hq ⟨_,_,_,rfl⟩
    ·simp
 | _=>exact tV (c:=Vx) (λ_ _ _=>rfl) rfl
theorem M_(P:Program)(rg:Nat)(u:S9)(d:Option Nat)(o:Op)(e:Operand->AV)(S:St):NF2 (λe S K=>WO P rg u d o e S K) o.operands (nw rg (d.getD 0) u o e) e S:=by
 cases hp:Ik u o with
 | false=>
  have:=KD P rg u d o e S;simpa only[WO,nw,hp,cond_false]using this
 | true=>
  simp only[WO,nw,hp,cond_true];clear hp;have hc:∀r S K e',(∀x∈o.operands,e' x=e x)->(vd P r Vx d o e' S K↔vd P r Vx d o e S K):=λr S K e' he=>by obtain⟨c,v,ch,_,hF⟩:=LX P r Vx d o e S;exact(hF e' S he (jS.refl _ _ S) K).trans (hF e S (λ_ _=>rfl) (jS.refl _ _ S) K).symm
  obtain⟨uv,rd,wk,wr,pl⟩:=u;cases wk with
  | nil=>
   refine⟨∀r S,vd P r Vx d o e S (λv S'=>∃kk g es,v = .sl kk r (d.getD 0) g 0 es.length/\S'=S.set r (d.getD 0) (.arr kk es) g/\VW (.list es) (uv (λ_=>0))),λ_=>uv (λ_=>0),λ_=>[],λ_ _ x hx=>by simp at hx,λe' S' he _ _ K=>?_⟩;exact and_congr ⟨λh r S=>(hc r S _ e' he).1 (h r S),λh r S=>(hc r S _ e' he).2 (h r S)⟩ ⟨λh _=>h,λh=>h (λ_=>0)⟩
  | cons q wk=>
   refine⟨(∀γ,∀x∈wr γ,(x.1,x.2.1)∈q::wk)/\∀S',bU rd S' S->bU (q::wk) S' S->vd P rg Vx d o e S' (λv To=>dz (λv' S3=>∃γ,v'=uv γ/\S3=gJ (wr γ) S') v To),uv,wr,λhh=>hh.1,λe' S' he h1 h2 K=>?_⟩;refine and_congr (and_congr_right λ_=>⟨λh X a b=>?_,λh X a b=>?_⟩) Iff.rfl;·exact(hc rg X _ e' he).1 (h X (a.trans h1.symm) (b.trans h2.symm))
   ·exact(hc rg X _ e' he).2 (h X (a.trans h1) (b.trans h2))
theorem Gm{R:AV->St->Prop}(h:UR P n o t S (λv S'=>dz R v S'))(hR:∀v S',R v S'->K v S'):UR P n o t S K:=by intro ro G a w Kc Q hr ht hk;refine h ro G a w Kc Q hr ht ?_;rintro v av S' G' w' hG hle SQ hv;obtain⟨v2,S2,G2,b0,b1,b2,b3⟩:=hG G' w' v SQ hv;exact hk v v2 S2 G2 w' (hR _ _ b0) (hle.trans b1) b2 b3
theorem MI(hv:∀r K,vd P r Vx o.dst o.op (ev t) S K->UR P n o t S K)(h:vPL P rg u o.dst o.op (ev t) S K):UR P n o t S K:=by
 obtain⟨uv,rd,wk,wr,pl⟩:=u;cases wk with
 | cons q wk=>
  obtain⟨⟨_,hc⟩,hK⟩:=h;refine Gm (hv rg _ (hc S (bU.refl _ S) (bU.refl _ S))) ?_;rintro v S' ⟨γ,rfl,rfl⟩;exact hK γ
 | nil=>
 intro ro G a w Kc Q hr ht hk;obtain⟨r,hrf⟩:=hr.S6;obtain⟨hc,hK⟩:=h;refine hv r _ (hc r S) ro G a w Kc Q hr ht ?_;rintro v av S' G' w' ⟨kk,g,es,rfl,rfl,hw⟩ hle SQ hav;have Rr:(S.set r (o.dst.getD 0) (.arr kk es) g) r (o.dst.getD 0)=some (.arr kk es,g):=by simp[St.set]
 obtain⟨G2,h1,h2,h3⟩:=Wk.freeze (v:=.sl kk r (o.dst.getD 0) g 0 es.length) Rr G' w' v SQ hav;have e1:Wp r (o.dst.getD 0) g kk es (.sl kk r (o.dst.getD 0) g 0 es.length) = .list es:=by simp only[Wp,Et,wK];rw[if_pos ⟨trivial,trivial,trivial,trivial,om⟩,List.drop_zero,List.take_length]
 have e2:(S.set r (o.dst.getD 0) (.arr kk es) g).del r (o.dst.getD 0)=S:=by
  funext r' k';simp only[St.del,St.set];by_cases hh:r'=r/\k'=o.dst.getD 0;·rw[if_pos hh,hh.1,hh.2,hrf _]
  ·rw[if_neg hh,if_neg hh]
 rw[e1]at h3;rw[e2]at h2;exact hk v _ S G2 w' hK (hle.trans h1) h2 (hw G2 v h3)
variable{e':Operand->AV}
theorem GQ{u:CR}{o:Op}(h:∀x∈o.operands,e' x=e x):UH rg k u o e'=UH rg k u o e:=by
 cases o with
 | load T x=>simp only[UH,h x (by simp[Op.operands])]
 | store T a x=>simp only[UH,h a (by simp[Op.operands])]
 | lookup T x i ok=>simp only[UH,h x (by simp[Op.operands])]
 | mapUpdate T m i x=>simp only[UH,h m (by simp[Op.operands])]
 | insert T m i x=>simp only[UH,h m (by simp[Op.operands])]
 | call c=>
  obtain⟨callee,xs,ts⟩:=c;cases callee with
  | builtin b=>
   obtain⟨l,rfl⟩:∃l:List Operand,xs=l.toArray:=⟨xs.toList,by simp⟩;cases b with
   | append=>
    rcases l with _|⟨b,_|⟨x,_|⟨_,_⟩⟩⟩<;>try rfl
    simp only[UH,h b (by simp[Op.operands,Call.operands]),h x (by simp[Op.operands,Call.operands])]
   | len=>
    rcases l with _|⟨x,_|⟨_,_⟩⟩<;>try rfl
    simp only[UH,h x (by simp[Op.operands,Call.operands])]
   | _=>rfl
  | _=>rfl
 | _=>rfl
theorem Dg{o:Op}(h:∀x∈o.operands,e' x=e x):wi rg k u o e'=wi rg k u o e:=by
 have h1:=GQ (rg:=rg) (k:=k) (u:=Vx) h;cases o with
 | buildSlice=>rfl
 | call c=>
  obtain⟨callee,xs,ts⟩:=c;cases callee with
  | value f=>rfl
  | _=>simp only[wi,h1]
 | _=>simp only[wi,h1]
theorem Eu{o:Op}(h:∀x∈o.operands,e' x=e x):nw rg k u o e'=nw rg k u o e:=by unfold nw;rw[Dg h]
def YY(P:Program)(rg:Nat)(us:Nat->S9)(ops:List Oper)(j:Nat)(o:Oper)(t:Env)(S:St)(C:Env->St->Prop):Prop:=
 match o.guard with
 | none=>WO P rg (us j) o.dst o.op (ev t) S (λv S'=>C (dh t o.dst v) S')
 | some (g,want)=>match (ops[g]?).bind (·.dst)with
  | some d=>match t d with
   | .bool b=>if b=want then WO P rg (us j) o.dst o.op (ev t) S (λv S'=>C (dh t o.dst v) S')else C (dh t o.dst (.tuple [])) S
   | .tuple []=>C (dh t o.dst (.tuple [])) S
   | _=>False
  | none=>False
def Wb(rg:Nat)(us:Nat->S9)(ops:List Oper)(j:Nat)(o:Oper)(t:Env):qz:=
 match o.guard with
 | none=>nw rg (o.dst.getD 0) (us j) o.op (ev t)
 | some (g,want)=>match (ops[g]?).bind (·.dst)with
  | some d=>match t d with
   | .bool b=>if b=want then nw rg (o.dst.getD 0) (us j) o.op (ev t)else ([],[])
   | _=>([],[])
  | none=>([],[])
variable{ops:List Oper}{t':Env}
theorem yO(h:∀d∈o.looksAt ops.toArray,t' d=t d):∀x∈o.op.operands,ev t' x=ev t x:=by
 intro x hx;cases x with
 | tmp i=>exact h i (List.mem_append_left _ (List.mem_filterMap.2 ⟨.tmp i,by simpa using hx,rfl⟩))
 | _=>rfl
variable{want:Bool}
theorem wh(h:∀d∈o.looksAt ops.toArray,t' d=t d){d:Nat}(hg:o.guard=some (g,want))(hd:(ops[g]?).bind (·.dst)=some d):t' d=t d:=h d (List.mem_append_right _ (by simp[hg,hd]))
variable{j:Nat}{us:Nat->S9}
theorem vv(h:∀d∈o.looksAt ops.toArray,t' d=t d):Wb rg us ops j o t'=Wb rg us ops j o t:=by
 unfold Wb;rw[Eu (yO h)];cases hg:o.guard with
 | none=>rfl
 | some gw=>
  obtain⟨g,want⟩:=gw;simp only[];split;·rename_i d hd;rw[wh h hg hd]
  ·rfl
theorem tW(P:Program)(rg:Nat)(us:Nat->S9)(ops:List Oper)(j:Nat)(o:Oper)(t:Env)(S:St) :
  ∃(c:Prop) (v:YO->AV) (ch:YO->List WE),(c->∀γ,∀x∈ch γ,(x.1,x.2.1)∈(Wb rg us ops j o t).2)/\∀(t':Env) (S':St),(∀d∈o.looksAt ops.toArray,t' d=t d)->
   bU (Wb rg us ops j o t).1 S' S->bU (Wb rg us ops j o t).2 S' S->∀C,YY P rg us ops j o t' S' C↔c/\∀γ,C (dh t' o.dst (v γ)) (gJ (ch γ) S'):=by
 obtain⟨c,v,ch,h1,h2⟩:=M_ P rg (us j) o.dst o.op (ev t) S;unfold Wb YY;cases hg:o.guard with
 | none=>exact⟨c,v,ch,h1,λt' S' ht hS hS2 C=>h2 (ev t') S' (yO ht) hS hS2 _⟩
 | some gw=>
  obtain⟨g,want⟩:=gw;simp only[];cases hd:(ops[g]?).bind (·.dst)with
  | none=>exact⟨False,v,λ_=>[],λh=>h.elim,λ_ _ _ _ _=>by simp⟩
  | some d=>
   simp only[];have hgd:∀t':Env,(∀d∈o.looksAt ops.toArray,t' d=t d)->t' d=t d:=λt' ht=>wh ht hg hd;cases htd:t d with
   | bool b=>
    by_cases hb:b=want;·refine⟨c,v,ch,by simp only[if_pos hb];exact h1,λt' S' ht hS hS2 C=>?_⟩;simp only[if_pos hb]at hS hS2;simp only[hgd t' ht,htd,if_pos hb];exact h2 (ev t') S' (yO ht) hS hS2 _
    ·refine⟨True,λ_=>.tuple [],λ_=>[],λ_ γ x hx=>by simp at hx,λt' S' ht hS _ C=>?_⟩;simp only[hgd t' ht,htd,if_neg hb,gJ,true_and,forall_const]
   | tuple vs=>
    cases vs with
    | nil=>exact⟨True,λ_=>.tuple [],λ_=>[],λ_ γ x hx=>by simp at hx,λt' S' ht hS _ C=>by simp only[hgd t' ht,htd,gJ,true_and,forall_const]⟩
    | cons=>exact⟨False,v,λ_=>[],λh=>h.elim,λt' S' ht _ _ C=>by simp only[hgd t' ht,htd,false_and]⟩
   | _=>exact⟨False,v,λ_=>[],λh=>h.elim,λt' S' ht _ _ C=>by simp only[hgd t' ht,htd,false_and]⟩
theorem tC{C C':Env->St->Prop}(h:YY P rg us ops j o t S C)(hC:∀t S,C t S->C' t S):YY P rg us ops j o t S C':=by obtain⟨c,v,ch,_,h2⟩:=tW P rg us ops j o t S;have h3:=h2 t S (λ_ _=>rfl) (bU.refl _ S) (bU.refl _ S);exact(h3 C').2 ⟨((h3 C).1 h).1,λg=>hC _ _ (((h3 C).1 h).2 g)⟩
def yk(ops:List Oper)(i j:Nat):Bool:=((Region.before ops.toArray).getD j 0).testBit i
def ct(a b:qz):Prop:=(∀x∈a.2,x∉b.1/\x∉b.2)/\∀y∈b.2,y∉a.1
theorem RD{P:Prop}(h:P:=by  simp[ct]):P:=h
abbrev Log:=List (Nat×qz)
def cf(ops:List Oper)(Tc:Log)(j:Nat)(E:qz):Prop:=∀p∈Tc,yk ops p.1 j=true\/ct p.2 E
def FU(ops:List Oper)(M:Array Nat)(j:Nat):Bool:=
 match ops[j]? with
 | none=>true
 | some o=>(o.after.all λe=>!Region.binds .any e||decide (e.on<j)) &&
   (range ops.length).all λi=>(!(M.getD j 0).testBit i||o.after.any λe=>Region.binds .any e&&(e.on==i||(M.getD e.on 0).testBit i)) &&
    (i==j||(M.getD j 0).testBit i||(M.getD i 0).testBit j||match ops[i]? with|some oi=>oi.apart ops.toArray o|none=>true)
def lL(n:Nat)(ops:List Oper):Bool:=(ops.all λo=>match o.dst with|some d=>decide (d<n)|none=>true)&&(range ops.length).all (FU ops (Region.before ops.toArray))
theorem Ew(h:lL n ops=true)(ho:o∈ops){d:Nat}(hd:o.dst=some d):d<n:=by simp only[lL,and_eq_true,List.all_eq_true]at h;have:=h.1 o ho;simpa[hd]using this
theorem pV(h:lL n ops=true)(ho:ops[j]? = some o) :
  (∀e∈o.after,Region.binds .any e=true->e.on<j)/\∀i,i<ops.length->(yk ops i j=true->∃e∈o.after,Region.binds .any e=true/\(e.on=i\/yk ops i e.on=true))/\
   (i=j\/yk ops i j=true\/yk ops j i=true\/∀oi,ops[i]? = some oi->oi.apart ops.toArray o=true):=by
 simp only[lL,and_eq_true,List.all_eq_true,List.mem_range]at h;have hj:j<ops.length:=(List.getElem?_eq_some_iff.1 ho).1;have h1:=h.2 j hj;simp only[FU,ho,and_eq_true,Array.all_eq_true_iff_forall_mem,List.all_eq_true,List.mem_range,Bool.or_eq_true,Bool.not_eq_true',decide_eq_true_eq]at h1;refine⟨λe he hb=>(h1.1 e he).resolve_left (by simp[hb]),λi hi=>?_⟩;obtain⟨h2,h3⟩:=h1.2 i hi;refine⟨λSv=>?_,?_⟩
 ·have ahl:((Region.before ops.toArray).getD j 0).testBit i=true:=Sv;have:=h2.resolve_left (λhf=>by rw[ahl]at hf;cases hf);obtain⟨e,he,hb⟩:=Array.any_eq_true'.1 this;simp only[and_eq_true,Bool.or_eq_true,beq_iff_eq]at hb;exact⟨e,he,hb.1,hb.2⟩
 ·rcases h3 with((h3|h3)|h3)|h3;·exact .inl (by simpa using h3)
  ·exact .inr (.inl h3)
  ·exact .inr (.inr (.inl h3))
  ·refine .inr (.inr (.inr λoi Z6=>?_));rw[Z6]at h3;exact h3
def DC(ops:List Oper)(listed:Array Bool):Prop:=∀j,listed.getD j false=true->∀i,i<ops.length->yk ops i j=true->listed.getD i false=true
variable{listed:Array Bool}{i:Nat}
theorem pp(h:listed.getD i true=false):listed.getD i false=false:=by
 rcases Nat.lt_or_ge i listed.size with h'|h';·simp[h']at h ⊢;exact h
 ·simp[Array.getElem?_eq_none h']at h
theorem xV(QT:lL n ops=true)(Yc:DC ops listed)(hj:j∈Region.ready .any ops.toArray listed):∀i,i<ops.length->yk ops i j=true->listed.getD i false=true:=by
 obtain⟨h0,o,ho,Sj⟩:=mem_ready.1 hj;intro i hi Sv;have ho':ops[j]? = some o:=by simpa using ho
 obtain⟨e,he,hb,h⟩:=((pV QT ho').2 i hi).1 Sv;rcases h with h|h;·subst h;exact Sj e he hb
 ·exact Yc e.on (Sj e he hb) i hi h
theorem Np(QT:lL n ops=true)(Yc:DC ops listed)(hj:j∈Region.ready .any ops.toArray listed):DC ops (listed.setIfInBounds j true):=by
 intro k hk i hi hik;by_cases hkj:j=k;·subst hkj;exact getD_set_true (xV QT Yc hj i hi hik)
 ·rw[getD_set_ne false hkj]at hk;exact getD_set_true (Yc k hk i hi hik)
def AD(P:Program)(rg:Nat)(us:Nat->S9)(ops:List Oper)(K:Env->St->Prop)(Tc:Log):Nat->Array Bool->Env->St->Prop
 | 0,listed,t,S=>Region.ready .any ops.toArray listed=[]/\K t S
 | fuel+1,listed,t,S=>(Region.ready .any ops.toArray listed=[]->K t S)/\∀j o,ops[j]? = some o->j∈Region.ready .any ops.toArray listed->
   cf ops Tc j (Wb rg us ops j o t)/\YY P rg us ops j o t S (λt' S'=>AD P rg us ops K Tc fuel (listed.setIfInBounds j true) t' S')
variable{E:qz}
section
variable{P:Program}{rg:Nat}{us:Nat->S9}{ops:List Oper}{K:Env->St->Prop}
theorem Cj{p:Nat×qz}{Tc:Log}:∀(fuel:Nat) (listed:Array Bool) (t:Env) (S:St),AD P rg us ops K (p::Tc) fuel listed t S->AD P rg us ops K Tc fuel listed t S
 | 0,_,_,_,h=>h
 | fuel+1,_,_,_,h=>⟨h.1,λj o ho hj=>⟨λq hq=>(h.2 j o ho hj).1 q (List.mem_cons_of_mem _ hq),tC (h.2 j o ho hj).2 (λt S=>Cj fuel _ t S)⟩⟩
theorem E0{v:AV}{s:Nat}(h:∀e,d=some e->s≠e):dh t d v s=t s:=by
 cases d with
 | none=>rfl
 | some e=>simp only[dh,SR,if_neg (h e rfl)]
theorem Ge{e:Option Nat}{v u:AV}(h:∀x,d=some x->e≠some x):dh (dh t d v) e u=dh (dh t e u) d v:=by
 cases d with
 | none=>cases e<;>rfl
 | some d=>
  cases e with
  | none=>rfl
  | some e=>
   have QI:d≠e:=λhe=>h d rfl (by rw[he]);funext k;simp only[dh,SR];by_cases h1:k=e;·subst h1;rw[if_pos rfl,if_neg (λh=>QI h.symm),if_pos rfl]
   ·rw[if_neg h1,if_neg h1]
theorem JK(QT:lL n ops=true){oi:Oper}(Z6:ops[i]? = some oi):∀(fuel:Nat) (Tc:Log) (listed:Array Bool) (t:Env) (S:St),DC ops listed->i∈Region.ready .any ops.toArray listed->E=Wb rg us ops i oi t->cf ops Tc i E->YY P rg us ops i oi t S (λt' S'=>AD P rg us ops K ((i,E)::Tc) fuel (listed.setIfInBounds i true) t' S')->AD P rg us ops K Tc (fuel+1) listed t S:=by
 intro fuel;induction fuel with
 | zero=>
  intro Tc listed t S Yc hi hE Xn H;refine⟨λh=>(by rw[h]at hi;cases hi),λj oj U8 hj=>?_⟩;by_cases VY:j=i
  ·subst VY;obtain rfl:oi=oj:=by rw[Z6]at U8;exact Option.some.inj U8
   exact⟨hE▸Xn,tC H (λt S=>Cj _ _ t S)⟩
  ·have:=ready_mono hj VY;obtain⟨c,v,ch,_,h2⟩:=tW P rg us ops i oi t S;have h3:=((h2 t S (λ_ _=>rfl) (bU.refl _ S) (bU.refl _ S) _).1 H).2 (λ_=>0)
   rw[h3.1]at this;cases this
 | succ fuel ih=>
  intro Tc listed t S Yc hi hE Xn H;refine⟨λh=>(by rw[h]at hi;cases hi),λj oj U8 hj=>?_⟩;by_cases VY:j=i
  ·subst VY;obtain rfl:oi=oj:=by rw[Z6]at U8;exact Option.some.inj U8
   exact⟨hE▸Xn,tC H (λt S=>Cj _ _ t S)⟩
  ·have T7:i<ops.length:=(List.getElem?_eq_some_iff.1 Z6).1;have hjn:j<ops.length:=(List.getElem?_eq_some_iff.1 U8).1;have hiu:=pp (mem_ready.1 hi).1;have hju:=pp (mem_ready.1 hj).1;have Sv:¬yk ops i j=true:=λh=>by have:=xV QT Yc hj i T7 h;rw[hiu]at this;cases this
   have ahi:¬yk ops j i=true:=λh=>by have:=xV QT Yc hi j hjn h;rw[hju]at this;cases this
   have hap:oi.apart ops.toArray oj=true:=by
    rcases ((pV QT U8).2 i T7).2 with h|h|h|h;·exact absurd h.symm VY
    ·exact absurd h Sv
    ·exact absurd h ahi
    ·exact h oi Z6
   obtain⟨ap1,ap2,ap3⟩:=Oper.apart_spec hap;obtain⟨ci,vi,ei,ki,UZ⟩:=tW P rg us ops i oi t S;obtain⟨cj,vj,ej,kj,YG⟩:=tW P rg us ops j oj t S;have D:=(UZ t S (λ_ _=>rfl) (bU.refl _ S) (bU.refl _ S) _).1 H;have ti:∀v,∀d∈oj.looksAt ops.toArray,dh t oi.dst v d=t d:=λv d hd=>E0 (λe he hde=>ap1 e he (hde▸hd));have tj:∀v,∀d∈oi.looksAt ops.toArray,dh t oj.dst v d=t d:=λv d hd=>E0 (λe he hde=>ap3 e he (hde▸hd));have hAE:ct E (Wb rg us ops j oj t):=by have h1:=((D.2 (λ_=>0)).2 j oj U8 (ready_mono hj VY)).1 (i,E) Qy;rw[vv (ti (vi (λ_=>0)))]at h1;exact h1.resolve_left Sv
   rw[<-hE]at ki UZ;have ki:=ki D.1;have hcj:cf ops Tc j (Wb rg us ops j oj t):=λp hp=>by have h1:=((D.2 (λ_=>0)).2 j oj U8 (ready_mono hj VY)).1 p (List.mem_cons_of_mem _ hp);rwa[vv (ti (vi (λ_=>0)))]at h1
   have Hj:∀g,cj/\∀h,AD P rg us ops K ((i,E)::Tc) fuel ((listed.setIfInBounds i true).setIfInBounds j true) (dh (dh t oi.dst (vi g)) oj.dst (vj h)) (gJ (ej h) (gJ (ei g) S)):=λg=>(YG _ _ (ti (vi g)) (oC λx hx=>(hAE.1 _ (ki g x hx)).1) (oC λx hx=>(hAE.1 _ (ki g x hx)).2) _).1 ((D.2 g).2 j oj U8 (ready_mono hj VY)).2;have kj:=kj (Hj (λ_=>0)).1
   refine⟨hcj,(YG t S (λ_ _=>rfl) (bU.refl _ S) (bU.refl _ S) _).2 ⟨(Hj (λ_=>0)).1,λh=>?_⟩⟩
   refine ih Tc (listed.setIfInBounds j true) _ _ (Np QT Yc hj) (ready_mono hi (Ne.symm VY)) (hE.trans (vv (tj (vj h))).symm) Xn ?_;refine(UZ _ _ (tj (vj h)) (oC λx hx=>hAE.2 _ (kj h x hx)) (oC λx hx hE2=>(hAE.1 _ hE2).2 (kj h x hx)) _).2 ⟨D.1,λg=>?_⟩
   have:=(Hj g).2 h;rw[Array.setIfInBounds_comm _ _ (Ne.symm VY),Ge ap2,AU (λx hx y hy hc=>(hAE.1 _ (ki g x hx)).2 (by rw[hc.1,hc.2];exact kj h y hy))]at this;exact this
end
def lg(j:Nat)(E:qz)(log:Log):Log:=match E with|([],[])=>log|E=>(j,E)::log
def RK(P:Program)(rg:Nat)(us:Nat->S9)(ops:List Oper):List Oper->Nat->Log->Env->St->(Env->St->Prop)->Prop
 | [],_,_,t,S,K=>K t S
 | o::rest,j,log,t,S,K=>match o.guard with
  | none=>cf ops log j (nw rg (o.dst.getD 0) (us j) o.op (ev t))/\WO P rg (us j) o.dst o.op (ev t) S (λv S'=>RK P rg us ops rest (j+1) (lg j (nw rg (o.dst.getD 0) (us j) o.op (ev t)) log) (dh t o.dst v) S' K)
  | some (g,want)=>match (ops[g]?).bind (·.dst)with
   | some d=>match t d with
    | .bool b=>(b=want->cf ops log j (nw rg (o.dst.getD 0) (us j) o.op (ev (SR t d (.bool want))))/\WO P rg (us j) o.dst o.op (ev (SR t d (.bool want))) S
       (λv S'=>RK P rg us ops rest (j+1) (lg j (nw rg (o.dst.getD 0) (us j) o.op (ev (SR t d (.bool want)))) log) (dh (SR t d (.bool want)) o.dst v) S' K))/\
      (b = !want->RK P rg us ops rest (j+1) log (dh (SR t d (.bool !want)) o.dst (.tuple [])) S K)
    | .tuple []=>RK P rg us ops rest (j+1) log (dh t o.dst (.tuple [])) S K
    | _=>False
   | none=>False
variable{op:Op}{C:AV->St->Prop}{log:Log}
section
variable{P:Program}{rg:Nat}{us:Nat->S9}{ops:List Oper}{K:Env->St->Prop}
theorem uA:cf ops log j ([],[]):=λp _=>.inr (by
 obtain⟨i,r,w⟩:=p;simp[ct])
theorem Hw{rest:List Oper}(h:RK P rg us ops (o::rest) j log t S K) :cf ops log j (Wb rg us ops j o t)/\YY P rg us ops j o t S (λt' S'=>RK P rg us ops rest (j+1) (lg j (Wb rg us ops j o t) log) t' S' K):=by
 unfold RK at h;unfold Wb YY;cases hg:o.guard with
 | none=>simp only[hg]at h;exact h
 | some gw=>
  obtain⟨g,want⟩:=gw;simp only[hg]at h;simp only[];cases hd:(ops[g]?).bind (·.dst)with
  | none=>simp only[hd]at h
  | some d=>
   simp only[hd]at h;simp only[];cases hb:t d with
   | bool b=>
    simp only[hb]at h;simp only[];by_cases hw:b=want;·have e:SR t d (.bool want)=t:=Cv (by rw[hb,hw]);have:=h.1 hw;rw[e]at this;simp only[if_pos hw];exact this
    ·have Yg:b = !want:=by cases b<;>cases want<;>simp_all
     have e:SR t d (.bool !want)=t:=Cv (by rw[hb,Yg]);have:=h.2 Yg;rw[e]at this;simp only[if_neg hw];exact⟨uA,this⟩
   | tuple vs=>
    cases vs with
    | nil=>simp only[hb]at h;exact⟨uA,h⟩
    | cons=>simp only[hb]at h
   | _=>simp only[hb]at h
theorem MP(QT:lL n ops=true)(hi:i<ops.length):∀j,j<ops.length->yk ops i j=true->i<j:=by
 intro j;induction j using Nat.strongRecOn with
 | _ j ih=>
  intro hj Sv;have U8:ops[j]? = some ops[j]:=List.getElem?_eq_getElem hj;obtain⟨e,he,hb,h⟩:=((pV QT U8).2 i hi).1 Sv;have QH:=(pV QT U8).1 e he hb;rcases h with rfl|h;·exact QH
  ·exact Nat.lt_trans (ih e.on QH om h) QH
theorem Ms(QT:lL n ops=true):∀(rest:List Oper) (j:Nat) (log L:Log) (t:Env) (S:St) (listed:Array Bool),ops.drop j=rest->j<=ops.length->listed.size=ops.length->(∀i,listed.getD i false=true↔i<j)->(∀p∈L,p∈log\/p.2=([],[]))->RK P rg us ops rest j log t S K->AD P rg us ops K L rest.length listed t S:=by
 intro rest;induction rest with
 | nil=>
  intro j log L t S listed UC hj RP hl hL h;have UM:ops.length<=j:=by simpa using UC
  refine⟨?_,h⟩;cases hr:Region.ready .any ops.toArray listed with
  | nil=>rfl
  | cons k ks=>
   have hk:k∈Region.ready .any ops.toArray listed:=by rw[hr];simp
   obtain⟨h0,o,ho,_⟩:=mem_ready.1 hk;have hkl:k<ops.length:=by have:=(Array.getElem?_eq_some_iff.1 ho).1;simpa using this
   have:=(hl k).2 om;rw[pp h0]at this;cases this
 | cons o rest ih=>
  intro j log L t S listed UC hj RP hl hL h;have UM:j<ops.length:=by
   rcases Nat.lt_or_ge j ops.length with h|h;·exact h
   ·rw[List.drop_eq_nil_of_le h]at UC;cases UC
  have U8:ops[j]? = some o:=by
   have h0:(ops.drop j)[0]? = (o::rest)[0]?:=by rw[UC]
   simpa using h0
  obtain⟨h1,h2⟩:=Hw h;have Yc:DC ops listed:=λa ha i hi hia=>(hl i).2 (by
   have U9:=(hl a).1 ha;have:=MP QT hi a om hia;omega)
  have aaO:j∈Region.ready .any ops.toArray listed:=mem_ready.2 ⟨by
   have:¬listed.getD j false=true:=λhc=>by have:=(hl j).1 hc;omega
   have hsj:j<listed.size:=om;simp[hsj]at this ⊢;exact this,o,by simpa using U8,λe he hb=>(hl e.on).2 ((pV QT U8).1 e he hb)⟩
  refine JK QT U8 rest.length L listed t S Yc aaO rfl ?_ (tC h2 λt' S' h'=>?_)
  ·intro p hp;rcases hL p hp with hp|hp;·exact h1 p hp
   ·refine .inr ?_;rw[hp];generalize Wb rg us ops j o t=E;obtain⟨r,w⟩:=E;simp[ct]
  ·refine ih (j+1) _ _ t' S' _ ?_ om (by simpa using RP) ?_ ?_ h';·rw[List.drop_eq_getElem_cons UM]at UC;exact(List.cons.inj UC).2
   ·intro i;by_cases Sv:j=i;·subst Sv;simp[show j<listed.size by omega]
    ·rw[getD_set_ne false Sv,hl i];omega
   ·intro p hp;rcases List.mem_cons.1 hp with rfl|hp
    ·generalize Wb rg us ops j o t=E;obtain⟨r,w⟩:=E;cases r with
     | nil=>
      cases w with
      | nil=>exact .inr rfl
      | cons w ws=>exact .inl (by simp[lg])
     | cons a r=>exact .inl (by simp[lg])
    ·rcases hL p hp with hp|hp
     ·refine .inl ?_;unfold lg;split;·exact hp
      ·exact List.mem_cons_of_mem _ hp
     ·exact .inr hp
theorem EY(h:Bf P rg u o.dst o.op (ev t) S C):UR P n o t S C:=by
 obtain⟨dst,op,ty,pos,after,guard⟩:=o;cases op with
 | call c=>
  obtain⟨callee,xs,ts⟩:=c;cases callee with
  | value f=>
   refine nD (rg:=rg) ?_;show(match ev t f with|.fn (.func g) fs QG=>Ctr P g (fs++(xs.toList.map (ev t)++QG)) S C|_=>False);simp only[Bf]at h;generalize ev t f=ef at h ⊢;by_cases hq:∃g fs QG,ef = .fn (.func g) fs QG;·obtain⟨g,fs,QG,rfl⟩:=hq;obtain⟨⟨_,h1⟩,h2⟩:=h;refine Ctr.mono (h1 S (bU.refl _ S) (bU.refl _ S)) ?_;rintro v S' ⟨γ,rfl,rfl⟩;exact h2 γ
   ·exfalso;split at h;·exact hq ⟨_,_,_,rfl⟩
    ·exact h
  | invoke r m=>exact nD (rg:=rg) h
  | builtin b=>exact nD (rg:=rg) h
 | buildSlice T len parts=>
  obtain⟨uv,rd,wk,wr,pl⟩:=u;cases pl;·exact nD (rg:=rg) h
  ·exact zK rfl h
 | _=>exact nD (rg:=rg) h
def eo:S9:=⟨λ_=>.Qz,[],[],λ_=>[],false⟩
theorem Mq(h:WO P rg u o.dst o.op (ev t) S C):UR P n o t S C:=by
 unfold WO at h;cases hp:Ik u o.op with
 | false=>rw[hp]at h;exact EY (rg:=rg) h
 | true=>
  rw[hp]at h;refine MI (λr K hk=>?_) h;have:Bf P r eo o.dst o.op (ev t) S K=vd P r Vx o.dst o.op (ev t) S K:=by
   cases ho:o.op with
   | call c=>
    obtain⟨callee,xs,ts⟩:=c;cases callee with
    | value f=>rw[ho]at hp;cases hp
    | _=>rfl
   | buildSlice=>rw[ho]at hp;cases hp
   | _=>rfl
  exact EY (rg:=r) (u:=eo) (this▸hk)
theorem JJ(QT:lL n ops=true){Q:Exit->Act->World->Prop}:∀(fuel:Nat) (L:Log) (listed:Array Bool) (t:Env) (S:St) (G:Qh) (a:Act) (w:World),AD P rg us ops K L fuel listed t S->Rel G S w->TR n G t a->(∀a w,lift n G K a w->Q .normal a w)->∀ro,wpAnyIn (Xr ro) 0 P .any ops.toArray Q fuel listed a w:=by
 intro fuel;induction fuel with
 | zero=>intro L listed t S G a w h hr ht hQ ro;exact⟨h.1,hQ a w ⟨t,S,G,h.2,Qh.le.refl G,hr,ht⟩⟩
 | succ fuel ih=>
  intro L listed t S G a w h hr ht hQ ro;refine⟨λhn=>hQ a w ⟨t,S,G,h.1 hn,Qh.le.refl G,hr,ht⟩,λj hj=>?_⟩;obtain⟨_,o,ho,_⟩:=mem_ready.1 hj;have U8:ops[j]? = some o:=by simpa using ho
  have hdo:∀d,o.dst=some d->d<n:=λd hd=>Ew QT (List.mem_of_getElem? U8) hd;obtain⟨_,h2⟩:=h.2 j o U8 hj;unfold wpOpIn;simp only[ho];have step:WO P rg (us j) o.dst o.op (ev t) S (λv S'=>AD P rg us ops K L fuel (listed.setIfInBounds j true) (dh t o.dst v) S')->o.wpIn (Xr ro) 0 P a w (wpAnyIn (Xr ro) 0 P .any ops.toArray Q fuel (listed.setIfInBounds j true)) Q:=λhv=>Mq hv ro G a w _ Q hr ht (λv av S' G' w' hk hle SQ hav=>ih _ _ _ S' G' _ w' hk SQ ((ht.mono hle).put hdo hav) (λa w hl=>hQ a w (QP hl hle)) ro);unfold YY at h2;cases hg:o.guard with
  | none=>
   simp only[hg]at h2;rw[if_pos (by simp[Region.wanted,hg])];exact step h2
  | some gw=>
   obtain⟨g,want⟩:=gw;simp only[hg]at h2;cases hd:(ops[g]?).bind (·.dst)with
   | none=>simp only[hd]at h2
   | some d=>
    simp only[hd]at h2;cases hb:t d with
    | bool b=>
     simp only[hb]at h2;have hy:=Hm ht hd hb;have hw:Region.wanted o (yielded ops.toArray a.tmps)=(b==want):=by simp only[Region.wanted,hg,hy];cases b<;>cases want<;>rfl
     by_cases hbw:b=want;·rw[if_pos (by rw[hw];simp[hbw])];rw[if_pos hbw]at h2;exact step h2
     ·rw[if_neg (by rw[hw];simp[hbw])];rw[if_neg hbw]at h2;exact⟨λ_ _=>trivial,ih _ _ _ S G _ w h2 hr (ht.put hdo (VR.undef G)) hQ ro⟩
    | tuple vs=>
     cases vs with
     | nil=>
      simp only[hb]at h2;have hy:=JO ht hd hb;rw[if_neg (by simp[Region.wanted,hg,hy])];exact⟨λ_ _=>trivial,ih _ _ _ S G _ w h2 hr (ht.put hdo (VR.undef G)) hQ ro⟩
     | cons=>simp only[hb]at h2
    | _=>simp only[hb]at h2
theorem Mp(rg:Nat)(us:Nat->S9)(QT:lL n ops=true)(h:RK P rg us ops ops 0 [] t S K):vdr P n ops.toArray K t S:=by intro ro G a w Q hr ht hQ;have h1:=Ms QT ops 0 [] [] t S (Array.replicate ops.length false) rfl (Nat.zero_le _) Qy (by intro i;simp[Array.getElem?_replicate];split<;>simp) (λp hp=>by simp at hp) h;have h2:=JJ QT ops.length [] _ t S G a w h1 hr ht hQ ro;simpa using h2
def pc(v:AV):S9:=⟨λ_=>v,[],[],λ_=>[],false⟩
def wc(v:YO->AV)(rd wk:List Key)(wr:YO->List WE):S9:=⟨v,rd,wk,wr,false⟩
def gO:List (Nat×S9)->Nat->S9
 | [],_=>eo
 | (i,u)::rest,j=>if j=i then u else gO rest j
variable{d:Option Nat}{t:Env}{S:St}{C:AV->St->Prop}{ty:TypeId}{pos:String}{after:Array Edge}{rest:List Oper}{j:Nat}{log:Log}{u:S9}
def zX(u:S9)(o:Op):Bool:=Ik u o||match o with|.call { callee:=.value _,.. }=>true|.buildSlice ..=>u.pl|_=>false
theorem LA(h:zX u op=false):WO P rg u d op (ev t) S C=vo P rg d op t S C:=by
 unfold zX at h;rw[Bool.or_eq_false_iff]at h;obtain⟨hp,h⟩:=h;unfold WO;rw[hp];show Bf P rg u d op (ev t) S C=_;cases op with
 | call c=>
  obtain⟨callee,xs,ts⟩:=c;cases callee with
  | value f=>cases h
  | _=>rfl
 | buildSlice T len parts=>
  obtain⟨uv,rd,wk,wr,pl⟩:=u;cases pl;·rfl
  ·cases h
 | _=>rfl
theorem Hv:RK P rg us ops (⟨d,op,ty,pos,after,none⟩::rest) j log t S K=(cf ops log j (nw rg (d.getD 0) (us j) op (ev t))/\WO P rg (us j) d op (ev t) S (λv S'=>RK P rg us ops rest (j+1) (lg j (nw rg (d.getD 0) (us j) op (ev t)) log) (dh t d v) S' K)):=rfl
theorem Ht(h:nw rg (d.getD 0) (us j) op (ev t)=([],[]))(h':zX (us j) op=false) :RK P rg us ops (⟨d,op,ty,pos,after,none⟩::rest) j log t S K=vo P rg d op t S (λv S'=>RK P rg us ops rest (j+1) log (dh t d v) S' K):=by
 rw[Hv,h,LA h'];simp only[lg];exact propext ⟨λh=>h.2,λh=>⟨uA,h⟩⟩
theorem L5(hE:E≠([],[])):lg j E log=(j,E)::log:=by
 unfold lg;split;·exact absurd rfl hE
 ·rfl
theorem Hu(h:nw rg (d.getD 0) (us j) op (ev t)=E)(h':zX (us j) op=false)(hE:E≠([],[])) :RK P rg us ops (⟨d,op,ty,pos,after,none⟩::rest) j log t S K=(cf ops log j E/\vo P rg d op t S (λv S'=>RK P rg us ops rest (j+1) ((j,E)::log) (dh t d v) S' K)):=by rw[Hv,h,LA h',L5 hE]
theorem Cs{f:Operand}{xs:List Operand}{ts:Array TypeId}:RK P rg us ops (⟨d,.call { callee:=.value f,args:=xs.toArray,argTypes:=ts },ty,pos,after,none⟩::rest) j log t S K =
  (cf ops log j ((us j).rd,(us j).wk)/\(match ev t f with
   | .fn (.func g) fs QG=>((∀γ,∀x∈(us j).wr γ,(x.1,x.2.1)∈(us j).wk)/\∀S',bU (us j).rd S' S->bU (us j).wk S' S->Ctr P g (fs++(xs.map (ev t)++QG)) S' (λv To=>∃γ,v=(us j).v γ/\To=gJ ((us j).wr γ) S'))/\
     ∀γ,RK P rg us ops rest (j+1) (lg j ((us j).rd,(us j).wk) log) (dh t d ((us j).v γ)) (gJ ((us j).wr γ) S) K
   | _=>False)):=rfl
theorem xB:RK P rg us ops (⟨d,op,ty,pos,after,some (g,want)⟩::rest) j log t S K=(match (ops[g]?).bind (·.dst)with
   | some s=>match t s with
    | .bool b=>(b=want->RK P rg us ops (⟨d,op,ty,pos,after,none⟩::rest) j log (SR t s (.bool want)) S K)/\
      (b = !want->RK P rg us ops rest (j+1) log (dh (SR t s (.bool !want)) d (.tuple [])) S K)
    | .tuple []=>RK P rg us ops rest (j+1) log (dh t d (.tuple [])) S K
    | _=>False
   | none=>False):=rfl
end
end Go.Gg
