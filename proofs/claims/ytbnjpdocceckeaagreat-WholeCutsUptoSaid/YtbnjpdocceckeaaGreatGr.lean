/- slices.SortFunc: the kit's contract as a contract of this logic. Conditions: none. -/
import Derived.Test.YtbnjpdocceckeaaGreatGd
import Derived.Shelf.SlSortCmp.NoneTotal
set_option linter.all false
open List (getElem_map)
open Nat (mul_comm)
namespace Go.Gg
open Go.Shelf Go.Proofs Go.Sort
variable{z:List (IntKind×Int)}{G:Qh}{kk:Nat}{l:List AV}{α:Type}
section
variable{P:Program}{ρ:Ren}{β:Type}
def Vh(l:List (IntKind×Int)):List Value:=l.map λp=>.int p.1 p.2
def Xg(l:List (IntKind×Int)):List AV:=l.map λp=>.int p.1 p.2
theorem Nh(h:l=Xg z)(j:Nat)(hj:j<l.length):VR G l[j] ((Vh z)[j]!):=by
 subst h;have hz:j<z.length:=by simpa[Xg]using hj
 rw[getElem!_pos (Vh z) j (by simpa[Vh]using hz)];simp only[Xg,Vh,getElem_map];exact .int _ _
theorem K0(h:l=Xg z)(j:Nat)(hj:j<l.length){x:Value}(hx:VR G l[j] x):x=(Vh z)[j]!:=by
 subst h;have hz:j<z.length:=by simpa[Xg]using hj
 rw[getElem!_pos (Vh z) j (by simpa[Vh]using hz)];simp only[Xg,Vh,getElem_map]at hx ⊢;cases hx;rfl
theorem J_{S:St}{w:World}{L:Loc}{enc:β->AV}{zs:β->List (IntKind×Int)}(hz:∀x,(enc x).cells=Xg (zs x))(hk:∀x,(zs x).length=kk){l l':List β}{q0 k0 g0:Nat}(hr:Rel G S w)(hS:S q0 k0=some (.arr kk (l.map enc),g0))(hL:G.loc q0 k0 g0=some L)(ob:jU G w L (.arr kk (l.map enc)))(hc:0<L.cap)(hl:l'.length=l.length){F:Array Value}(hs:F.size=l'.length*kk)(hF:∀i (hi:i<l'.length) j,j<kk->F[i*kk+j]! = (Vh (zs l'[i]))[j]!)(n:Nat)(os:Array Obj) :∃G',G.le G'/\Rel G' (S.set q0 k0 (.arr kk (l'.map enc)) g0) (grow (putRow id (Sort.ahead w n) L.block 0 F) os):=by
 obtain⟨h1,h2,h3,h4,h5,h6⟩:=ob;obtain⟨row,a,b,c⟩:=h6 hc;have hb:L.block<w.heap.size:=by
  rcases Nat.lt_or_ge L.block w.heap.size with h|h;·exact h
  ·rw[Array.getElem?_eq_none h]at a;cases a
 have Ri:(grow (putRow id (Sort.ahead w n) L.block 0 F) os).heap[L.block]? = some (.cells (putCells id 0 F row) L.t (0,0)):=by show((w.heap.modify L.block (onCells (putCells id 0 F)))++os)[L.block]? = _;rw[Array.getElem?_append_left (by simpa using hb),Array.getElem?_modify,if_pos rfl,a];rfl
 have hg:w.grownBy (grow (putRow id (Sort.ahead w n) L.block 0 F) os) (some L.block):=by
  refine⟨rfl,rfl,rfl,?_,λc hc QI=>?_⟩;·show w.heap.size<=((w.heap.modify L.block (onCells (putCells id 0 F)))++os).size;simp
  ·show((w.heap.modify L.block (onCells (putCells id 0 F)))++os)[c]? = _;rw[Array.getElem?_append_left (by simpa using hc),Array.getElem?_modify,if_neg (λe=>QI (by rw[e]))]
 have hl3:l'.length<=L.cap:=by rw[hl];simpa using h3
 obtain⟨G',q1,_,_,q4⟩:=hr.put hg q0 k0 g0 (.arr kk (l'.map enc)) L (λb hb=>by injection hb with hb;subst hb;exact⟨_,_,_,hS,hL,hc,rfl⟩) (λhc=>.inr ⟨_,_,_,hS,hL,hc,rfl⟩) (.inr hL)
  (λG' _=>⟨h1,h2,by simpa using hl3,h4,λi hi=>by simp[hz,Xg,hk],λ_=>⟨_,Ri,by simpa[putCells]using b,λi hi j hj=>by
   have Q9:i<l'.length:=by simpa using hi
   simp only[getElem_map]at hj ⊢;have Vp:j<kk:=by rw[hz,Xg,List.length_map,hk]at hj;exact hj
   have QH:i*kk+j<l'.length*kk:=by have:=Nat.mul_le_mul_right kk (show i+1<=l'.length from Q9);rw[Nat.add_mul,Nat.one_mul]at this;omega
   have Vy:i*kk+j<row.size:=by have:=Nat.mul_le_mul_right kk hl3;omega
   refine⟨_,?_,Nh (hz _) j hj⟩;simp only[putCells,Array.getElem?_mapIdx,Array.getElem?_eq_getElem Vy,Option.map_some];rw[if_pos ⟨Nat.zero_le _,om⟩,Nat.sub_zero];show some (F[i*kk+j]!)=_;rw[hF i Q9 j Vp]⟩⟩)
 exact⟨G',q1,q4⟩
def sk(P:Program)(f g:FuncId)(kk:Nat)(zs:β->List (IntKind×Int))(ok:β->Prop)(cf:β->β->Int):Prop:=
 ∀(Xs cap:Nat) (l:List β) (w:World),(∀x∈l,ok x)->Xs<w.heap.size->l.length<4611686018427387904->
  (∀i (hi:i<l.length) j,j<kk->w.cell? ⟨Xs,i*kk+j,none⟩=some ((Vh (zs l[i]))[j]!)/\w.frozen? ⟨Xs,i*kk+j,none⟩=false)->
  Calls P f #[.slice (some ⟨Xs,0,none⟩) l.length cap,.func (.func g) #[] #[]] w λe w'=>e = .returned (.tuple #[])/\
   ∃(l':List β) (F:Array Value) (n:Nat) (os:Array Obj),l'.Perm l/\l'.Pairwise (λa b=>¬cf b a<0)/\F.size=l'.length*kk/\
    (∀i (hi:i<l'.length) j,j<kk->F[i*kk+j]! = (Vh (zs l'[i]))[j]!)/\w'=grow (putRow id (Sort.ahead w n) Xs 0 F) os
theorem xI{f g:FuncId}{zs:β->List (IntKind×Int)}{ok:β->Prop}{cf:β->β->Int}(H:sk P f g kk zs ok cf)(H0:∀(p:Option Addr) (cap:Nat) (fv:Value) (w:World),Calls P f #[.slice p 0 cap,fv] w λe w'=>e = .returned (.tuple #[])/\w'=w)(Yf:kN P f=true){enc:β->AV}(hz:∀x,(enc x).cells=Xg (zs x))(hk:∀x,(zs x).length=kk){l:List β}{q0 k0 g0:Nat}{S:St}{R:AV->St->Prop}(hl:∀x∈l,ok x)(hlen:l.length<4611686018427387904)(hQ:∀l':List β,l'.Perm l->l'.Pairwise (λa b=>¬cf b a<0)->R (.tuple []) (Qk S [(q0,k0,.arr kk (l'.map enc),g0)])) :Ctr P f [.sl kk q0 k0 g0 0 l.length,.fn (.func g) [] []] (Qk S [(q0,k0,.arr kk (l.map enc),g0)]) R:=by
 refine⟨Yf,λG w vs hr V8=>?_⟩;obtain⟨RP,hvr⟩:=V8;have e0:=hvr 0 Qy (by rw[RP];simp);have e1:=hvr 1 Qy (by rw[RP];simp);obtain⟨v0,v1,rfl⟩:∃a b,vs = #[a,b]:=by
  rcases vs with⟨l⟩;match l,RP with
  | [a,b],_=>exact⟨a,b,rfl⟩
 simp only[List.getElem_cons_zero,List.getElem_cons_succ,List.getElem_toArray]at e0 e1;have hS0:Qk S [(q0,k0,.arr kk (l.map enc),g0)] q0 k0=some (.arr kk (l.map enc),g0):=by simp[Qk,St.set]
 obtain⟨L0,hL0,ob0,_⟩:=hr.obj _ _ _ _ hS0;cases e0 with
 | sl _ _ _ _ _ _ a0 L0' p1 p2 p3 p4 p5=>
 obtain rfl:L0'=L0:=by rw[hL0]at p1;exact(Option.some.inj p1).symm
 obtain⟨fs,cs,hf,hcs,rfl⟩:∃fs cs:Array Value,fs.size=0/\cs.size=0/\v1 = .func (.func g) fs cs:=by
  cases e1 with
  | fn _ _ _ fs cs a b _ _=>exact⟨fs,cs,a,b,rfl⟩
 obtain rfl:=Array.eq_empty_of_size_eq_zero hf;obtain rfl:=Array.eq_empty_of_size_eq_zero hcs;have Rr:∀l':List β,(Qk S [(q0,k0,.arr kk (l.map enc),g0)]).set q0 k0 (.arr kk (l'.map enc)) g0=Qk S [(q0,k0,.arr kk (l'.map enc),g0)]:=λl'=>by simp only[Qk];exact set_set
 by_cases hc:0<L0'.cap
 ·have ha:=p5 hc;rw[Nat.zero_mul]at ha;subst ha;obtain⟨row,ra,rb,rc⟩:=ob0.2.2.2.2.2 hc;have hb:L0'.block<w.heap.size:=by
   rcases Nat.lt_or_ge L0'.block w.heap.size with h|h;·exact h
   ·rw[Array.getElem?_eq_none h]at ra;cases ra
  refine(H L0'.block (L0'.cap-0) l w hl hb hlen (λi hi j hj=>⟨?_,?_⟩)).mono ?_;·obtain⟨x,x1,x2⟩:=rc i (by simpa using hi) j (by simp[hz,Xg,hk,hj]);simp only[getElem_map]at x2;rw[cell_of_row w _ _ row _ _ ra,x1,K0 (hz _) j (by simp[hz,Xg,hk,hj]) x2]
  ·simp[World.frozen?,ra]
  ·rintro e w' ⟨rfl,l',F,n,os,hp,hw,hs,hF,rfl⟩;obtain⟨G',q1,q2⟩:=J_ hz hk hr hS0 hL0 ob0 hc hp.length_eq hs hF n os;rw[Rr]at q2;exact⟨_,_,_,G',rfl,hQ l' hp hw,q1,q2,.tuple _ _ rfl (λi h=>absurd h Qy)⟩
 ·obtain rfl:l=[]:=List.eq_nil_of_length_eq_zero om;refine(H0 a0 (L0'.cap-0) _ w).mono ?_;rintro e w' ⟨rfl,rfl⟩;exact⟨_,_,_,G,rfl,hQ [] (.refl _) .nil,Qh.le.refl G,hr,.tuple _ _ rfl (λi h=>absurd h Qy)⟩
def zx(P:Program)(g:FuncId)(val:β->Value)(ok:β->Prop)(cf:β->β->Int):Prop:=∀x y,ok x->ok y->∀w,Calls P g #[val x,val y] w λe w'=>e = .returned (.int .i64 (cf x y))/\∃q os',w'=grow (w.drewN q) os'
theorem ye[Inhabited α]{d d':Array α}(h:PermIn 0 d.size d d'):d'.toList.Perm d.toList:=by
 obtain⟨h1,_,h3⟩:=h;have e1:d.extract 0 d.size=d:=by simp
 have e2:d'.extract 0 d.size=d':=by rw[<-h1];simp
 rw[e1,e2]at h3;exact h3
theorem yh[Inhabited α]{d:Array α}{lt:α->α->Bool}{n:Nat}(hn:n=d.size)(h:SortedIn lt 0 n d):d.toList.Pairwise (λa b=>lt b a=false):=by rw[List.pairwise_iff_getElem];intro i j hi hj Sv;have:=h i j (Nat.zero_le _) Sv (by rw[hn];simpa using hj);rw[getElem!_pos d i (by simpa using hi),getElem!_pos d j (by simpa using hj)]at this;simpa using this
theorem Da(L:SlLaysF.n6 P ρ){g:FuncId}(eg:∀args w,(callFunc g args).run P w = .ok (.enter g args) w){ok:Int->Prop}{x0:Int}(h0:ok x0){cf:Int->Int->Int}(hO:SWO (ltOf cf))(hc:zx P g (λx=>.int .i64 x) ok cf) :sk P (ρ.f 6) g 1 (λx=>[(.i64,x)]) ok cf:=λXs cap l w hl hb hn UF=>by
 letI:Inhabited {x:Int // ok x}:=⟨⟨x0,h0⟩⟩
 have hd:∀j (hj:j<l.length),((l.attach.map λx=>(⟨x.1,hl x.1 x.2⟩:{x:Int // ok x})).toArray)[j]!.1=l[j]:=λj hj=>by rw[getElem!_pos _ j (by simpa using hj)];simp
 have hs:((l.attach.map λx=>(⟨x.1,hl x.1 x.2⟩:{x:Int // ok x})).toArray).size=l.length:=by simp
 have hv:((l.attach.map λx=>(⟨x.1,hl x.1 x.2⟩:{x:Int // ok x})).toArray).toList.map (·.1)=l:=by simp
 revert hd hs hv;generalize ((l.attach.map λx=>(⟨x.1,hl x.1 x.2⟩:{x:Int // ok x})).toArray)=d;intro hd hs hv
 have K:=Any.slices_SortFunc L (λx:{x:Int // ok x}=>Value.int .i64 x.1) (λ_=>rfl) (λx y=>cf x.1 y.1) ⟨λx=>hO.irrefl _,λx y z=>hO.trans x.1 y.1 z.1,λx y z=>hO.ntrans x.1 y.1 z.1⟩ g #[] Xs 0 cap d w eg
  (λm os dk _ x y=>hc x.1 y.1 x.2 y.2 _) (λj hj=>by
   rw[hs]at hj;have:=UF j hj 0 (by decide);simpa[hd j hj,Vh]using this) hb (by rw[hs];exact hn)
 rw[hs]at K;refine K.mono ?_;rintro e w' ⟨rfl,d',n,os,hp,hw,rfl⟩;rw[<-hs]at hp;have T6:=(ye hp).map (·.1);rw[hv]at T6;have hw2:=yh (by rw[hp.1,hs]) hw;refine⟨rfl,d'.toList.map (·.1),d'.map λx=>Value.int .i64 x.1,n,os,T6,?_,by simp,λi hi j hj=>?_,?_⟩;·rw[List.pairwise_map];exact hw2.imp λh=>by simpa[ltOf]using h
 ·obtain rfl:j=0:=om;have Q9:i<d'.size:=by simpa using hi
  rw[Nat.mul_one,Nat.add_zero,getElem!_pos _ i (by simpa using Q9)];simp[Vh]
 ·show grow (mapBlock _ _ _) os=grow (mapBlock _ _ _) os;rw[show putCells (λx:{x:Int // ok x}=>Value.int .i64 x.1) 0 d'=putCells id 0 (d'.map λx=>Value.int .i64 x.1)from funext λc=>by
   apply Array.ext_getElem?;intro k;simp only[putCells,Array.getElem?_mapIdx,Array.size_map];cases c[k]? with
   | none=>rfl
   | some v=>
    simp only[Option.map_some];split;·rename_i h;rw[getElem!_pos d' (k-0) om,getElem!_pos (d'.map _) (k-0) (by simp;omega)];simp
    ·rfl]
theorem IM(L:SlLaysF0.n6 P ρ)(k0:0<kk)(aE:∀w,(isAgg (ρ.t 24)).run P w = .ok true w)(zE:∀w,(Go.sizeOf (ρ.t 24)).run P w = .ok kk w){zs:β->List (IntKind×Int)}(hk:∀x,(zs x).length=kk){g:FuncId}(eg:∀args w,(callFunc g args).run P w = .ok (.enter g args) w){ok:β->Prop}{x0:β}(h0:ok x0){cf:β->β->Int}(hO:SWO (ltOf cf))(hc:zx P g (λx=>.agg (Vh (zs x)).toArray) ok cf) :sk P (ρ.f 6) g kk zs ok cf:=λXs cap l w hl hb hn UF=>by
 letI:Inhabited {x:β // ok x}:=⟨⟨x0,h0⟩⟩
 have hd:∀j (hj:j<l.length),((l.attach.map λx=>(⟨x.1,hl x.1 x.2⟩:{x:β // ok x})).toArray)[j]!.1=l[j]:=λj hj=>by rw[getElem!_pos _ j (by simpa using hj)];simp
 have hs:((l.attach.map λx=>(⟨x.1,hl x.1 x.2⟩:{x:β // ok x})).toArray).size=l.length:=by simp
 have hv:((l.attach.map λx=>(⟨x.1,hl x.1 x.2⟩:{x:β // ok x})).toArray).toList.map (·.1)=l:=by simp
 revert hd hs hv;generalize ((l.attach.map λx=>(⟨x.1,hl x.1 x.2⟩:{x:β // ok x})).toArray)=d;intro hd hs hv;have hlen:∀x:{x:β // ok x},(Vh (zs x.1)).length=kk:=λx=>by simp[Vh,hk]
 have K:=AnyQ.slices_SortFunc L kk aE zE (λx:{x:β // ok x}=>Vh (zs x.1)) hlen (λx v hv=>by
   obtain⟨p,_,rfl⟩:=List.mem_map.1 hv;rfl) (λx y=>cf x.1 y.1) ⟨λx=>hO.irrefl _,λx y z=>hO.trans x.1 y.1 z.1,λx y z=>hO.ntrans x.1 y.1 z.1⟩ g #[] Xs 0 cap d w eg
  (λm os dk _ x y=>hc x.1 y.1 x.2 y.2 _) (λt ht=>by
   rw[size_flatK]at ht;have hq:t/kk<d.size:=Nat.div_lt_of_lt_mul (by rw[mul_comm];exact ht);have hr:=Nat.mod_lt t k0;have he:t/kk*kk+t%kk=t:=by rw[mul_comm];exact Nat.div_add_mod t kk
   rw[hs]at hq;have:=UF (t/kk) hq (t%kk) hr;rw[he]at this;rw[get_flatK _ _ _ t ht,hd _ hq,Nat.zero_add];exact this) hb (by rw[hs];exact hn)
 rw[hs]at K;refine K.mono ?_;rintro e w' ⟨rfl,d',n,os,hp,hw,rfl⟩;rw[<-hs]at hp;have T6:=(ye hp).map (·.1);rw[hv]at T6;have hw2:=yh (by rw[hp.1,hs]) hw;refine⟨rfl,d'.toList.map (·.1),flatK (λx:{x:β // ok x}=>Vh (zs x.1)) kk d',n,os,T6,?_,by simp,λi hi j hj=>?_,rfl⟩;·rw[List.pairwise_map];exact hw2.imp λh=>by simpa[ltOf]using h
 ·have Q9:i<d'.size:=by simpa using hi
  have QH:i*kk+j<d'.size*kk:=by have:=Nat.mul_le_mul_right kk (show i+1<=d'.size from Q9);rw[Nat.add_mul,Nat.one_mul]at this;omega
  have e1:(i*kk+j)/kk=i:=by rw[mul_comm,Nat.mul_add_div k0,Nat.div_eq_of_lt hj,Nat.add_zero]
  have e2:(i*kk+j)%kk=j:=by rw[mul_comm,Nat.mul_add_mod,Nat.mod_eq_of_lt hj]
  rw[get_flatK _ _ _ _ QH,e1,e2,getElem!_pos d' i Q9];simp
end
end Go.Gg
