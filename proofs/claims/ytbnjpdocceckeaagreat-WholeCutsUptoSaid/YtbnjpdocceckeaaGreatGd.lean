/- An own logic over the kit's weakest preconditions, part Z: clear, copy, rows cut short. Conditions: none. -/
import Derived.Test.YtbnjpdocceckeaaGreatGd0
set_option linter.all false
open List (getElem_take)
namespace Go.Gg
open Go.RowKit (Below)
theorem Rel.setRow{G:Qh}{S:St}{w:World}(hr:Rel G S w){r k g kk:Nat}{es:List AV}(hS:S r k=some (.arr kk es,g)){L:Loc}(hL:G.loc r k g=some L)(hc:0<L.cap){row:Array Value}(Ri:w.heap[L.block]? = some (.cells row L.t (0,0)))(XE:Array Value)(hs:XE.size=L.cap*L.k)(Tq:List AV)(hl:Tq.length<=L.cap)(UE:∀i (h:i<Tq.length),Tq[i].cells.length=L.k)(hv:∀i (h:i<Tq.length) j (h':j<Tq[i].cells.length),∃x,XE[i*L.k+j]? = some x/\VR G Tq[i].cells[j] x) :∃G',G.le G'/\Rel G' (S.set r k (.arr L.k Tq) g) (w.setRow L.block XE):=by
 obtain⟨L',R5,Q',_⟩:=hr.obj _ _ _ _ hS;obtain rfl:L'=L:=by rw[hL]at R5;exact(Option.some.inj R5).symm
 obtain⟨Xm,SZ,_,hm,_,_⟩:=Q';have Rr:=setRow_heap w L'.block row XE L'.t (0,0) Ri
 obtain⟨G',q1,_,_,q4⟩:=hr.put (w':=w.setRow L'.block XE) (row:=some L'.block) ⟨rfl,rfl,rfl,by simp,λb _ hb=>setRow_other w L'.block b _ (λe=>hb (by rw[e]))⟩ r k g
  (.arr L'.k Tq) L' (λb hb=>by injection hb with hb;subst hb;exact⟨_,_,_,hS,hL,hc,rfl⟩) (λhc=>.inr ⟨_,_,_,hS,hL,hc,rfl⟩) (.inr hL)
  (λG' hle=>tx Rr om hs hl hm UE (λi hi j hj=>let ⟨x,a,b⟩:=hv i hi j hj;⟨x,a,b.mono hle⟩))
 exact⟨G',q1,q4⟩
variable{S:St}{es:List AV}{kk:Nat}
theorem Rel.cut{G:Qh}{w:World}(hr:Rel G S w){r k g:Nat}(hS:S r k=some (.arr kk es,g))(n:Nat):Rel G (S.set r k (.arr kk (es.take n)) g) w:=by
 refine hr.XF (λr' k' o' g' e=>?_);simp only[St.set]at e;split at e
 ·rename_i hc;obtain⟨rfl,rfl⟩:=hc;cases e;refine⟨_,hS,λL hL=>?_⟩;obtain⟨L',R5,Q',_⟩:=hr.obj _ _ _ _ hS;obtain rfl:L'=L:=by rw[hL]at R5;exact(Option.some.inj R5).symm
  obtain⟨h1,h2,h3,Zo,h4,h5⟩:=Q';refine⟨h1,h2,by simp;omega,Zo,λi hi=>?_,λhc=>?_⟩
  ·simp only[getElem_take];exact h4 i _
  ·obtain⟨row,a1,a2,a3⟩:=h5 hc;refine⟨row,a1,a2,λi hi j hj=>?_⟩;simp only[getElem_take]at hj ⊢;exact a3 i _ j hj
 ·refine⟨o',e,λL hL=>?_⟩;obtain⟨L',R5,Q',_⟩:=hr.obj _ _ _ _ e;obtain rfl:L'=L:=by rw[hL]at R5;exact(Option.some.inj R5).symm
  exact Q'
variable{K:AV->St->Prop}{x:Operand}{n:Nat}{t:Env}
section
variable{P:Program}{G:Qh}{S:St}{w:World}
theorem Ga{z:Array Value}(h:∀u∈z.toList,u.oneCell'=true):∀u∈(Builtin.zeroCells z n).toList,u.oneCell'=true:=λu hu=>by
 simp only[Builtin.zeroCells,Array.toList_map,List.mem_map,Array.toList_range,List.mem_range]at hu;obtain⟨j,hj,rfl⟩:=hu;have hz:0<z.size:=by
  rcases Nat.eq_zero_or_pos z.size with h0|h0;·rw[h0]at hj;omega
  ·exact h0
 have hm:j%z.size<z.size:=Nat.mod_lt _ hz;rw[getElem!_pos z (j%z.size) hm];exact h _ Qy
theorem Gn{o:Oper}{T e:TypeId}(ho:o.op = .call { callee:=.builtin .clear,args:=#[x],argTypes:=#[T] })(hT:td P T = .slice e)(Tf:di P e=true){r k g off len:Nat}(hx:ev t x = .sl kk r k g off len)(hS:S r k=some (.arr kk es,g))(hk:(QM P e).cells.length=kk)(h1:fo (QM P e).cells=true)(h:K .Qz (S.set r k (.arr kk (es.take off)) g)):UR P n o t S K:=by
 refine lm (λρ=>Builtin.clear_ #[T] o.type #[ρ x]) (λρ=>by simp[execOp,ho,resolve,invoke,builtin]) λG ρ w hr he=>?_;have hv:=he x;rw[hx]at hv;generalize ρ x=vx at hv;cases hv with
 | sl _ _ _ _ _ _ a L hL Wa hc hm ha=>
 obtain⟨L',R5,Q',_⟩:=hr.obj _ _ _ _ hS;obtain rfl:L'=L:=by rw[hL]at R5;exact(Option.some.inj R5).symm
 obtain⟨Xm,_,Sp,_,UE,U6⟩:=Q';by_cases Zg:len=0;·subst Zg;refine⟨.tuple #[],w,.Qz,_,G,?_,h,Qh.le.refl G,hr.cut hS off,.Qz _⟩;cases a<;>simp[Builtin.clear_,run_underlying (iw hT)]
 ·have Vr:0<L'.cap:=om;obtain⟨row,Ri,Vy,TW⟩:=U6 Vr;have Zm:=ha om;subst Zm;obtain⟨i,z,hi,hz,hzs,Xh,hz0,U5⟩:=iN Tf;obtain⟨q1,q2⟩:=mo (P:=P) (G:=G) (w:=w) Tf;obtain⟨b1,b2,b3,b4⟩:=BI (P:=P) (G:=G) Tf hi hz;rw[Xh]at q1;have ac8:∀u∈z.cells.toList,u.oneCell'=true:=λu hu=>by obtain⟨j,hj,rfl⟩:=List.mem_iff_getElem.1 hu;simp only[Array.length_toList]at hj;rw[Array.getElem_toList];have SU:j<(QM P e).cells.length:=om;exact(b4 j SU hj).Va (List.all_eq_true.1 h1 _ (List.getElem_mem SU))
  obtain⟨zs,aaC⟩:∃zs:List Value,zs=(Builtin.zeroCells z.cells len).toList:=⟨_,rfl⟩;have hzl:zs.length=len*kk:=by rw[aaC,Array.length_toList,size_zeroCells,b2,<-b3,hk]
  have hzo:∀u∈zs,u.oneCell'=true:=by rw[aaC];exact Ga ac8
  have Vq:off*L'.k+zs.length<=row.size:=by rw[hzl,Vy,Wa,<-Nat.add_mul];exact Nat.mul_le_mul_right _ hc
  have Uf:=run_storeCells_at P L'.block (off*L'.k) L'.t zs 0 row w Ri (by simpa using Vq) hzo;simp only[Nat.add_zero]at Uf;have QH:(row.toList.take (off*L'.k)).length=off*L'.k:=by simp;omega
  obtain⟨G',p1,p2⟩:=hr.setRow hS hL Vr Ri (row.toList.take (off*L'.k)++zs++row.toList.drop (off*L'.k+zs.length)).toArray (by
    simp only[List.size_toArray,List.length_append,List.length_take,List.length_drop,Array.length_toList];rw[Wa]at Vq ⊢;omega) (es.take off) (by simp;omega) (λi hi=>by simp only[getElem_take];rw[Wa];exact UE i _)
   (λi hi j hj=>by
    simp only[getElem_take]at hj ⊢;have Q9:i<off/\i<es.length:=by rw[List.length_take]at hi;omega
    obtain⟨y,y1,y2⟩:=TW i Q9.2 j hj;refine⟨y,?_,y2⟩;have Vp:j<kk:=by rw[<-UE i Q9.2];exact hj
    have:=qu (k:=kk) Q9.1 Vp;simp only[List.getElem?_toArray];rw[Wa]at QH ⊢;rw[List.append_assoc,List.getElem?_append_left om,List.getElem?_take,if_pos this];simpa using y1)
  rw[Wa]at p2;refine⟨.tuple #[],_,.Qz,_,G',?_,h,p1,p2,.Qz _⟩;rw[Wa];rw[Wa]at Uf;cases len with
  | zero=>exact absurd rfl Zg
  | succ m=>simp[Builtin.clear_,run_underlying (iw hT),q1,<-aaC,Uf,Result.andThen]
theorem Wl.clear{n:Nat}{ops rest:List Oper}{K:Env->St->Prop}{d:Option Nat}{ty:TypeId}{pos:String}{after:Array Edge}{t:Env}{S S':St}{α:Type}{enc:α->AV}{l l':List α}{T e:TypeId}{x:Operand}{kk r k g off len:Nat}{z:AV}(hT:td P T = .slice e)(Tf:di P e=true)(hx:ev t x = .sl kk r k g off len)(hS:S r k=some (.arr kk (l.map enc),g))(hz:QM P e=z)(hk:z.cells.length=kk)(h1:fo z.cells=true)(hl:l.take off=l')(Rr:S.set r k (.arr kk (l'.map enc)) g=S')(h:Wl P n ops rest K (dh t d .Qz) S'):Wl P n ops (⟨d,.call { callee:=.builtin .clear,args:=#[x],argTypes:=#[T] },ty,pos,after,none⟩::rest) K t S:=by subst hz;refine Wl.ZA (Gn rfl hT Tf hx hS hk h1 ?_) rfl;rw[<-List.map_take,hl,Rr];exact h
end
variable{R:AV->St->Prop}{rg:Nat}
theorem yJ{l:dG}(q k:Nat)(hk:0<kk)(SY:∀k,S rg k=none)(h:∀g,R (.sl kk q k g 0 0) (S.set q k (.arr kk []) g)):dz R .nil (Qr S rg l):=λG w x hr hx=>by
 have SQ:Rel G S w:=hr.sub (λr k y e=>by
  have QI:r≠rg:=by rintro rfl;rw[SY]at e;cases e
  rw[qY QI];exact e)
 obtain⟨g,G',q1,q2,q3⟩:=SQ.V6 q k kk hk;cases hx;exact⟨_,_,G',h g,q1,q2,q3⟩
theorem GP{α:Type}{enc:α->AV}{v:AV}{S':St}{r k g:Nat}{l l':List α}(n:Nat)(hS:S r k=some (.arr kk (l.map enc),g))(hl:l.take n=l')(Rr:S.set r k (.arr kk (l'.map enc)) g=S')(h:dz R v S'):dz R v S:=λG w x hr hx=>h G w x (by rw[<-Rr,<-hl,List.map_take];exact hr.cut hS n) hx
theorem In{P:Program}{T e:TypeId}{d:Option Nat}{r k' g:Nat}{hi:Option Operand}{h:Int}(hT:td P T = .slice e)(hs:sz P e=kk)(h0:0<kk)(hx:ev t x = .sl kk r k' g 0 n)(Sx:V2 (hi.map (ev t)) n=some h)(hb:(0:Int)<=0/\0<=h/\h<=(n:Int))(hK:K (.sl kk r k' g 0 h.toNat) S):vo P rg d (.slice T x none hi none) t S K:=rn hT hs h0 hx (l:=0) rfl Sx hb (by simpa using hK)
end Go.Gg
