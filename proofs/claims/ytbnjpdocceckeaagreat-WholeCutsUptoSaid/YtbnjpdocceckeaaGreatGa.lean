/- An own logic over the kit's weakest preconditions, part A: abstract values, abstract stores, what it means that a concrete world fits them. Conditions: none. -/
import Derived.WalkKit
import Derived.Orders
import Derived.OrdersIn
import Derived.TacticsIn
import Derived.RangeFuncNested
import Derived.WideKeyRuns
set_option linter.all false
open List (all_eq_true append_assoc getElem_drop getElem_mem getElem_take length_drop length_take range replicate size_toArray)
open Nat (add_assoc add_mul add_zero le_refl mul_comm mul_le_mul_right succ_mul zero_add)
open Option (map_some)
open Bool (and_eq_true)
open Array (ext' length_toList)
namespace Go.Gg
variable{P:Prop}
theorem Qy(h:P:=by  simp):P:=h
theorem om(h:P:=by  omega):P:=h
open Go.RowKit (Below)
inductive AV where
 | int (k:IntKind) (n:Int)
 | bool (b:Bool)
 | str (s:ByteArray)
 | Sm
 | ptr (r k g i off:Nat)
 | Q2 (cs:List AV)
 | nil
 | list (es:List AV)
 | sl (kk r k g off len:Nat)
 | Rn
 | map (r k g:Nat)
 | fn (f:Fn) (first QG:List AV)
 | yl (r k g:Nat) (lp:Loop) (ix:List Nat) (es:List AV)
 | Tz
 | Qg
 | iface (t:TypeId) (v:AV)
 | agg (cs:List AV)
 | tuple (vs:List AV)
 | Qz
 deriving Inhabited
def AV.cells:AV->List AV
 | .agg cs=>cs
 | v=>[v]
def AV.one:AV->Bool
 | .agg _|.tuple _|.Qz=>false
 | _=>true
def AV.Q_:AV->Bool
 | .agg _=>true
 | v=>v.one
structure Loc where
 block:Nat
 cap:Nat
 k:Nat
 t:TypeId
structure Qh where
 init:World
 RM:Nat->Nat->Option Value
 loc:Nat->Nat->Nat->Option Loc
 Xa:Nat->Prop
 base:Nat
structure Qh.le(G G':Qh):Prop where
 init:G'.init=G.init/\(∀b,G.Xa b->G'.Xa b)/\G'.base=G.base
 RM:∀b o u,G.RM b o=some u->G'.RM b o=some u
 loc:∀r k g L,G.loc r k g=some L->G'.loc r k g=some L
theorem Qh.le.refl(G:Qh):G.le G:=⟨⟨rfl,λ_ h=>h,rfl⟩,λ_ _ _ h=>h,λ_ _ _ _ h=>h⟩
theorem Qh.le.trans{A B C:Qh}(h:A.le B)(h':B.le C):A.le C:=⟨⟨h'.init.1.trans h.init.1,λb e=>h'.init.2.1 b (h.init.2.1 b e),h'.init.2.2.trans h.init.2.2⟩,λb o u e=>h'.RM b o u (h.RM b o u e),λr k g L e=>h'.loc r k g L (h.loc r k g L e)⟩
inductive VR (G:Qh):AV->Value->Prop where
 | int (k:IntKind) (n:Int):VR G (.int k n) (.int k n)
 | bool (b:Bool):VR G (.bool b) (.bool b)
 | str (s:ByteArray):VR G (.str s) (.string s)
 | Sm:VR G .Sm (.pointer none)
 | ptr (r k g i off:Nat) (L:Loc):G.loc r k g=some L->VR G (.ptr r k g i off) (.pointer (some ⟨L.block,i*L.k+off,none⟩))
 | Q2 (cs:List AV) (c x:Nat) (u:Nat->Value):(∀j,j<cs.length->G.RM c (x+j)=some (u j))->
   (∀j (h:j<cs.length),VR G cs[j] (u j))->VR G (.Q2 cs) (.pointer (some ⟨c,x,none⟩))
 | nil:VR G .nil (.slice none 0 0)
 | list (es:List AV) (a:Option Addr) (n cap c x k:Nat) (u:Nat->Nat->Value):n=es.length->n<=cap->cap<=maxLen->(0<n->a=some ⟨c,x,none⟩)->
   (∀i (h:i<es.length),es[i].cells.length=k)->(∀i j,i<n->j<k->G.RM c (x+(i*k+j))=some (u i j))->
   (∀i (h:i<es.length) j (h':j<es[i].cells.length),VR G es[i].cells[j] (u i j))->VR G (.list es) (.slice a n cap)
 | sl (kk r k g off len:Nat) (a:Option Addr) (L:Loc):G.loc r k g=some L->L.k=kk->off+len<=L.cap->L.cap<=maxLen->(off<L.cap->a=some ⟨L.block,off*L.k,none⟩)->
   VR G (.sl kk r k g off len) (.slice a len (L.cap-off))
 | Rn:VR G .Rn (.map none)
 | map (r k g:Nat) (L:Loc):G.loc r k g=some L->VR G (.map r k g) (.map (some L.block))
 | fn (f:Fn) (first QG:List AV) (fs cs:Array Value):fs.size=first.length->cs.size=QG.length->
   (∀i (h:i<first.length) (h':i<fs.size),VR G first[i] fs[i])->(∀i (h:i<QG.length) (h':i<cs.size),VR G QG[i] cs[i])->VR G (.fn f first QG) (.func f fs cs)
 | yl (r k g:Nat) (lp:Loop) (ix:List Nat) (es:List AV) (L:Loc):G.loc r k g=some L->(∀i (h:i<es.length) (h':i<ix.length),VR G es[i] (lp.tmps.getD ix[i] undef))->VR G (.yl r k g lp ix es) (.func (.yield L.block) #[] #[])
 | Tz:VR G .Tz .nilFunc
 | Qg:VR G .Qg .nilIface
 | iface (t:TypeId) (v:AV) (x:Value):VR G v x->VR G (.iface t v) (.iface t x)
 | agg (cs:List AV) (xs:Array Value):xs.size=cs.length->(∀i (h:i<cs.length) (h':i<xs.size),VR G cs[i] xs[i])->VR G (.agg cs) (.agg xs)
 | tuple (cs:List AV) (xs:Array Value):xs.size=cs.length->(∀i (h:i<cs.length) (h':i<xs.size),VR G cs[i] xs[i])->VR G (.tuple cs) (.tuple xs)
 | Qz (x:Value):VR G .Qz x
structure Qh.sb(G G':Qh):Prop where
 RM:∀b o u,G.RM b o=some u->G'.RM b o=some u
 loc:∀r k g L,G.loc r k g=some L->G'.loc r k g=some L
theorem Qh.le.sb{G G':Qh}(h:G.le G'):G.sb G':=⟨h.RM,h.loc⟩
variable{v:Value}{a:AV}{G G':Qh}
theorem VR.re(h:VR G a v)(hg:G.sb G'):VR G' a v:=by
 induction h with
 | int k n=>exact .int k n
 | bool b=>exact .bool b
 | str s=>exact .str s
 | Sm=>exact .Sm
 | ptr r k g i off L h=>exact .ptr r k g i off L (hg.loc _ _ _ _ h)
 | Q2 cs c x u h1 _ ih=>exact .Q2 cs c x u (λj hj=>hg.RM _ _ _ (h1 j hj)) ih
 | nil=>exact .nil
 | list es a n cap c x k u h1 h2 W5 h3 h4 h5 _ ih=>exact .list es a n cap c x k u h1 h2 W5 h3 h4 (λi j hi hj=>hg.RM _ _ _ (h5 i j hi hj)) ih
 | sl kk r k g off len a L h1 h0 h2 W5 h3=>exact .sl kk r k g off len a L (hg.loc _ _ _ _ h1) h0 h2 W5 h3
 | Rn=>exact .Rn
 | map r k g L h=>exact .map r k g L (hg.loc _ _ _ _ h)
 | fn f first QG fs cs h1 h2 _ _ ih1 ih2=>exact .fn f first QG fs cs h1 h2 ih1 ih2
 | yl r k g lp ix es L h _ ih=>exact .yl r k g lp ix es L (hg.loc _ _ _ _ h) ih
 | Tz=>exact .Tz
 | Qg=>exact .Qg
 | iface t v x _ ih=>exact .iface t v x ih
 | agg cs xs h1 _ ih=>exact .agg cs xs h1 ih
 | tuple cs xs h1 _ ih=>exact .tuple cs xs h1 ih
 | Qz x=>exact .Qz x
theorem VR.mono(h:VR G a v)(hg:G.le G'):VR G' a v:=h.re hg.sb
theorem VR.cells{G:Qh}{a:AV}{v:Value}(h:VR G a v)(hs:a.Q_=true) :v.cells.size=a.cells.length/\∀j (h1:j<a.cells.length) (h2:j<v.cells.size),VR G a.cells[j] v.cells[j]:=by
 cases h<;>first
  | (simp[AV.Q_,AV.one]at hs;done)
  | (rename_i RP TW;exact⟨RP,TW⟩)
  | (
    refine⟨by simp[Value.cells,AV.cells],λj h1 h2=>?_⟩;simp only[AV.cells,List.length_singleton]at h1;obtain rfl:j=0:=om
    first
     | exact .int _ _|exact .bool _|exact .str _|exact .Sm|exact .nil|exact .Rn|exact .Tz|exact .Qg
     | (rename_i q1 q2 q3 q4 q5 q6 q7;exact .list _ _ _ _ _ _ _ _ q1 q2 q3 q4 q5 q6 q7)
     | (rename_i q1 q2 q3 q4 q5;exact .sl _ _ _ _ _ _ _ _ q1 q2 q3 q4 q5)
     | (rename_i q1 q2 q3 q4;exact .fn _ _ _ _ _ q1 q2 q3 q4)
     | (rename_i q q';first|exact .Q2 _ _ _ _ q q'|exact .yl _ _ _ _ _ _ _ q q')
     | (rename_i q;first|exact .ptr _ _ _ _ _ _ q|exact .map _ _ _ _ q|exact .iface _ _ _ q))
theorem VR.Va(h:VR G a v)(hs:a.one=true):v.oneCell'=true:=by cases h<;>first|rfl|(simp[AV.one]at hs)
inductive Sh where
 | one (k:IntKind)
 | many (ks:List IntKind)
 deriving DecidableEq
abbrev Qu:Sh:=.many  [.i64,.i64,.i64]
abbrev zKd:Sh:=.many  [.i64,.i64]
inductive QW where
 | arr (k:Nat) (es:List AV)
 | mp (sh:Sh) (n:Nat) (m:List Int->Option AV)
 | lp (r:Loop)
abbrev St:=Nat->Nat->Option (QW×Nat)
def St.set(S:St)(r k:Nat)(o:QW)(g:Nat):St:=λr' k'=>if r'=r/\k'=k then some (o,g)else S r' k'
def St.del(S:St)(r k:Nat):St:=λr' k'=>if r'=r/\k'=k then none else S r' k'
def St.clear(S:St)(r:Nat):St:=λr' k'=>if r'=r then none else S r' k'
def St.sub(S' S:St):Prop:=∀r k x,S' r k=some x->S r k=some x
def gA:Sh->List Int->Option Value
 | .one k,[n]=>some (.int k n)
 | .many ks,ns=>if ks.length=ns.length then some (.agg ((ks.zip ns).map λ(k,n)=>Value.int k n).toArray)else none
 | _,_=>none
def jU(G:Qh)(w:World)(L:Loc):QW->Prop
 | .arr kk es=>0<kk/\L.k=kk/\es.length<=L.cap/\L.cap<=maxLen/\(∀i (h:i<es.length),es[i].cells.length=kk)/\
   (0<L.cap->∃row:Array Value,w.heap[L.block]? = some (.cells row L.t (0,0))/\row.size=L.cap*kk/\
    ∀i (h:i<es.length) j (h':j<es[i].cells.length),∃x,row[i*kk+j]? = some x/\VR G es[i].cells[j] x)
 | .mp sh n m=>0<L.cap/\∃(R1:Array MapEntry) (clock:Nat),w.heap[L.block]? = some (.map R1 clock)/\R1.size=n/\
   (∀e∈R1.toList,∃ns v,gA sh ns=some e.key/\m ns=some v/\VR G v e.val)/\
   (∀ns v,m ns=some v->∃e∈R1.toList,gA sh ns=some e.key)/\
   (R1.toList.map (·.key)).Pairwise (λa b=>∀ns Ss,gA sh ns=some a->gA sh Ss=some b->ns≠Ss)
 | .lp r=>0<L.cap/\w.heap[L.block]? = some (.loop r)
structure Rel(G:Qh)(S:St)(w:World):Prop where
 below:Below G.init.heap.size G.init w/\(∀b,G.Xa b->w.heap[b]? = some (.deferred (some [])))/\G.base<=w.heap.size
 RM:∀b o u,G.RM b o=some u->w.cell? ⟨b,o,none⟩=some u
 obj:∀r k o g,S r k=some (o,g)->∃L,G.loc r k g=some L/\jU G w L o/\(0<L.cap->G.init.heap.size<=L.block/\∀x,G.RM L.block x=none)
 inj:∀r k o g r' k' o' g' L L',S r k=some (o,g)->S r' k'=some (o',g')->G.loc r k g=some L->G.loc r' k' g'=some L'->
  0<L.cap->0<L'.cap->¬(r=r'/\k=k')->L.block≠L'.block
 fin:∃N,∀r,N<=r->∀k,S r k=none
 U0:∀r k,∃N,∀g,N<=g->G.loc r k g=none
theorem Rel.sub{G:Qh}{S S':St}{w:World}(h:Rel G S w)(hs:S'.sub S):Rel G S' w:=by
 refine⟨h.below,h.RM,λr k o g e=>h.obj r k o g (hs _ _ _ e),λr k o g r' k' o' g' L L' e e'=>h.inj r k o g r' k' o' g' L L' (hs _ _ _ e) (hs _ _ _ e'),?_,h.U0⟩;obtain⟨N,hN⟩:=h.fin;refine⟨N,λr hr k=>?_⟩;cases e:S' r k with
 | none=>rfl
 | some x=>have:=hs _ _ _ e;rw[hN r hr k]at this;cases this
abbrev Env:=Nat->AV
def SR(t:Env)(d:Nat)(v:AV):Env:=λk=>if k=d then v else t k
def dh(t:Env)(d:Option Nat)(v:AV):Env:=match d with|some d=>SR t d v|none=>t
def RY:Value->AV
 | .int k n=>.int k n
 | .bool b=>.bool b
 | .string s=>.str s
 | .pointer a=>match a with|none=>.Sm|some _=>.Qz
 | .slice a n c=>match a,n,c with|none,0,0=>.nil|_,_,_=>.Qz
 | .map a=>match a with|none=>.Rn|some _=>.Qz
 | .nilFunc=>.Tz
 | .nilIface=>.Qg
 | .func f fs cs=>match fs.toList,cs.toList with|[],[]=>.fn f [] []|_,_=>.Qz
 | .iface t (.int k n)=>.iface t (.int k n)
 | _=>.Qz
def ofConst:Value->AV
 | .agg cs=>.agg (cs.toList.map RY)
 | v=>RY v
theorem VR.RY(G:Qh)(v:Value):VR G (Gg.RY v) v:=by
 cases v<;>try exact .Qz _
 case int=>exact .int _ _
 case bool=>exact .bool _
 case string=>exact .str _
 case nilFunc=>exact .Tz
 case nilIface=>exact .Qg
 case pointer a=>cases a;exact .Sm;exact .Qz _
 case map a=>cases a;exact .Rn;exact .Qz _
 case slice a n c=>
  simp only[Gg.RY];split;·exact .nil
  ·exact .Qz _
 case func f fs cs=>
  simp only[Gg.RY];split
  ·rename_i h1 h2;obtain rfl:fs = #[]:=by cases fs;simp_all
   obtain rfl:cs = #[]:=by cases cs;simp_all
   exact .fn _ [] [] #[] #[] rfl rfl (λi h=>by simp at h) (λi h=>by simp at h)
  ·exact .Qz _
 case iface t v=>
  cases v<;>first|exact .Qz _|exact .iface _ _ _ (.int _ _)
theorem VR.ofConst(G:Qh)(v:Value):VR G (Gg.ofConst v) v:=by
 cases v
 case agg cs=>
  refine .agg _ _ Qy (λi h h'=>?_);simp only[List.getElem_map,Array.getElem_toList];exact VR.RY G _
 all_goals (simp only[Gg.ofConst];exact VR.RY G _)
def ev(t:Env):Operand->AV
 | .tmp i=>t i
 | .const v=>ofConst v
 | .global _=>.Qz
 | .func f=>.fn (.func f) [] []
def yy(D:Nat):Deferred:={ target:=.collected D,args:=#[] }
theorem Ei{D E:Nat}(h:yy D=yy E):D=E:=by unfold yy at h;injection h with h;injection h
def sQ(G:Qh)(l:List Deferred):Prop:=l.Nodup/\∀d∈l,∃D,d=yy D/\G.base<=D/\G.Xa D
theorem sQ.nil(G:Qh):sQ G []:=⟨List.nodup_nil,λ_ h=>by cases h⟩
theorem sQ.mono{l:List Deferred}(h:sQ G l)(hg:G.le G'):sQ G' l:=⟨h.1,λd hd=>let ⟨D,h1,h2,h3⟩:=h.2 d hd;⟨D,h1,by rw[hg.init.2.2];exact h2,hg.init.2.1 D h3⟩⟩
def TR(n:Nat)(G:Qh)(t:Env)(a:Act):Prop:=sQ G a.defers/\a.tmps.size=n/\∀i,VR G (t i) (a.tmps.getD i undef)
theorem TR.eval{n:Nat}{G:Qh}{t:Env}{a:Act}(h:TR n G t a)(x:Operand):VR G (ev t x) (a.eval x):=by
 cases x with
 | tmp i=>exact h.2.2 i
 | const v=>exact VR.ofConst G v
 | global g=>exact .Qz _
 | func f=>exact .fn _ [] [] #[] #[] rfl rfl (λi h=>by simp at h) (λi h=>by simp at h)
theorem TR.mono{n:Nat}{G G':Qh}{t:Env}{a:Act}(h:TR n G t a)(hg:G.le G'):TR n G' t a:=⟨h.1.mono hg,h.2.1,λi=>(h.2.2 i).mono hg⟩
theorem TR.put{n:Nat}{G:Qh}{t:Env}{a:Act}(h:TR n G t a){d:Option Nat}{v:AV}{x:Value}(hd:∀k,d=some k->k<n)(hv:VR G v x) :TR n G (dh t d v) (a.put d x):=by
 cases d with
 | none=>exact h
 | some d=>
  refine⟨h.1,by simpa[Act.put]using h.2.1,λi=>?_⟩
  have hdn:=hd d rfl;simp only[dh,SR,Act.put];by_cases e:i=d
  ·subst e;have:i<a.tmps.size:=by rw[h.2.1];exact hdn
   simpa[Array.getD_eq_getD_getElem?,this]using hv
  ·rw[if_neg e];have:=h.2.2 i;simp only[Array.getD_eq_getD_getElem?]at this ⊢;rw[Array.getElem?_setIfInBounds_ne (Ne.symm e)];exact this
end Go.Gg
namespace Go.Gg
open Go.RowKit (Below)
theorem jU.re{G G':Qh}{w w':World}{L:Loc}{o:QW}(h:jU G w L o)(hg:G.sb G')(hw:0<L.cap->w'.heap[L.block]? = w.heap[L.block]?):jU G' w' L o:=by
 cases o with
 | arr kk es=>
  obtain⟨h1,h2,h3,Zo,h4,h5⟩:=h;refine⟨h1,h2,h3,Zo,h4,λhc=>?_⟩
  obtain⟨row,hr,hs,TW⟩:=h5 hc;exact⟨row,(hw hc).trans hr,hs,λi hi j hj=>let ⟨x,hx,hv⟩:=TW i hi j hj;⟨x,hx,hv.re hg⟩⟩
 | mp sh n m=>
  obtain⟨h0,R1,clock,h1,h2,h3,h4,h5⟩:=h;exact⟨h0,R1,clock,(hw h0).trans h1,h2,λe he=>let ⟨ns,v,a,b,c⟩:=h3 e he;⟨ns,v,a,b,c.re hg⟩,h4,h5⟩
 | lp r=>exact⟨h.1,(hw h.1).trans h.2⟩
variable{G G':Qh}{w w':World}{o:QW}{L:Loc}
theorem jU.keep(h:jU G w L o)(hg:G.le G')(hw:0<L.cap->w'.heap[L.block]? = w.heap[L.block]?):jU G' w' L o:=h.re hg.sb hw
theorem jU.lt(h:jU G w L o)(hc:0<L.cap):L.block<w.heap.size:=by
 cases o with
 | arr kk es=>
  obtain⟨_,_,_,_,_,h5⟩:=h;obtain⟨row,hr,_⟩:=h5 hc;exact(Array.getElem?_eq_some_iff.1 hr).1
 | mp sh n m=>
  obtain⟨_,R1,clock,h1,_⟩:=h;exact(Array.getElem?_eq_some_iff.1 h1).1
 | lp r=>exact(Array.getElem?_eq_some_iff.1 h.2).1
theorem jU.undef(h:jU G w L o)(hc:0<L.cap)(l:Option (List Deferred)):w.heap[L.block]?≠some (.deferred l):=by
 cases o with
 | arr kk es=>
  obtain⟨_,_,_,_,_,h5⟩:=h;obtain⟨row,hr,_⟩:=h5 hc;rw[hr];intro e;cases e
 | mp sh n m=>
  obtain⟨_,R1,clock,h1,_⟩:=h;rw[h1];intro e;cases e
 | lp r=>rw[h.2];intro e;cases e
def JD(G:Qh)(S:St)(r k b:Nat):Prop:=∃o g L,S r k=some (o,g)/\G.loc r k g=some L/\0<L.cap/\L.block=b
variable{S:St}{row:Option Nat}
theorem Rel.put(h:Rel G S w)(hg:w.grownBy w' row)(r k g:Nat)(obj:QW)(L:Loc)(Ri:∀b,row=some b->JD G S r k b)(hL:0<L.cap->w.heap.size<=L.block\/JD G S r k L.block)(Vo:G.loc r k g=none\/G.loc r k g=some L)(Q':∀G',G.le G'->jU G' w' L obj) :∃G',G.le G'/\G'.loc r k g=some L/\G'.RM=G.RM/\Rel G' (S.set r k obj g) w':=by
 let G':Qh:={ G with loc:=λr' k' g'=>if r'=r/\k'=k/\g'=g then some L else G.loc r' k' g' };have hle:G.le G':=by
  refine⟨⟨rfl,λ_ h=>h,rfl⟩,λ_ _ _ e=>e,λr' k' g' L' e=>?_⟩;show(if r'=r/\k'=k/\g'=g then some L else G.loc r' k' g')=some L';by_cases hc:r'=r/\k'=k/\g'=g
  ·obtain⟨rfl,rfl,rfl⟩:=hc;rw[if_pos ⟨rfl,rfl,rfl⟩];rcases Vo with h0|h0;·rw[h0]at e;cases e
   ·rw[h0]at e;exact e
  ·rw[if_neg hc];exact e
 have Tg:G'.loc r k g=some L:=by show(if r=r/\k=k/\g=g then some L else G.loc r k g)=some L;simp
 have hold:∀r' k' (_:QW) g',¬(r'=r/\k'=k)->G'.loc r' k' g'=G.loc r' k' g':=λr' k' _ g' QI=>by show(if r'=r/\k'=k/\g'=g then some L else G.loc r' k' g')=_;rw[if_neg (λhc=>QI ⟨hc.1,hc.2.1⟩)]
 have Wo:∀b,JD G S r k b->G.init.heap.size<=b/\b<w.heap.size/\∀x,G.RM b x=none:=by rintro b ⟨o,g0,L0,e1,e2,e3,rfl⟩;obtain⟨L1,f1,f2,f3⟩:=h.obj _ _ _ _ e1;rw[e2]at f1;cases f1;exact⟨(f3 e3).1,f2.lt e3,(f3 e3).2⟩
 refine⟨G',hle,Tg,rfl,?_,?_,?_,?_,?_,?_⟩
 ·refine⟨h.below.1.trans ⟨hg.os,hg.tape,hg.output,hg.size,λb hb=>hg.block b (Nat.lt_of_lt_of_le hb h.below.1.size) (λe=>?_)⟩,λb hb=>?_,Nat.le_trans h.below.2.2 hg.size⟩;·have:=Wo b (Ri b e.symm);have Sq:b<G.init.heap.size:=hb;omega
  ·have hd:=h.below.2.1 b hb;refine(hg.block b (Array.getElem?_eq_some_iff.1 hd).1 (λe=>?_)).trans hd;obtain⟨o,g0,L0,e1,e2,e3,rfl⟩:=Ri b e.symm;obtain⟨L1,f1,f2,f3⟩:=h.obj _ _ _ _ e1;rw[e2]at f1;cases f1;exact f2.undef e3 _ hd
 ·intro b o u e;have hc:=h.RM b o u e;refine hg.cell hc (λe'=>?_)
  have:=(Wo b (Ri b e'.symm)).2.2 o;have e2:G.RM b o=some u:=e;rw[this]at e2;cases e2
 ·intro r' k' o' g' e;simp only[St.set]at e;split at e
  ·rename_i hc;obtain⟨rfl,rfl⟩:=hc;cases e;refine⟨L,Tg,Q' G' hle,λhc=>?_⟩
   rcases hL hc with h1|h1
   ·refine⟨Nat.le_trans h.below.1.size h1,λx=>?_⟩
    cases e:G.RM L.block x with
    | none=>rfl
    | some u=>
     have:=World.block_lt_of_cell? w _ (h.RM _ _ _ e);simp at this;omega
   ·have:=Wo _ h1;exact⟨this.1,this.2.2⟩
  ·rename_i QI;obtain⟨L',f1,f2,f3⟩:=h.obj _ _ _ _ e;refine⟨L',(hold r' k' o' g' QI).trans f1,f2.keep hle (λhc=>?_),f3⟩
   refine hg.block _ (f2.lt hc) (λe'=>?_)
   obtain⟨o,g0,L0,e1,e2,e3,e4⟩:=Ri _ e'.symm;exact h.inj _ _ _ _ _ _ _ _ _ _ e e1 f1 e2 hc e3 QI e4.symm
 ·intro r1 k1 o1 g1 r2 k2 o2 g2 L1 L2 e1 e2 f1 f2 c1 c2 QI;simp only[St.set]at e1 e2;have key:∀r' k' o' g' L',S r' k'=some (o',g')->G.loc r' k' g'=some L'->0<L'.cap->¬(r'=r/\k'=k)->0<L.cap->L.block≠L'.block:=by
   intro r' k' o' g' L' e f c hn Sp;rcases hL Sp with h1|h1;·obtain⟨L3,q1,q2,_⟩:=h.obj _ _ _ _ e;rw[f]at q1;cases q1;have:=q2.lt c;omega
   ·obtain⟨o,g0,L0,e3,e4,e5,e6⟩:=h1;rw[<-e6];exact h.inj _ _ _ _ _ _ _ _ _ _ e3 e e4 f e5 c (λhc=>hn ⟨hc.1.symm,hc.2.symm⟩)
  by_cases UO:r1=r/\k1=k;·rw[if_pos UO]at e1;cases e1;obtain⟨rfl,rfl⟩:=UO;rw[Tg]at f1;cases f1;rw[if_neg (λhc=>QI ⟨hc.1.symm,hc.2.symm⟩)]at e2;rw[hold r2 k2 o2 g2 (λhc=>QI ⟨hc.1.symm,hc.2.symm⟩)]at f2;exact key _ _ _ _ _ e2 f2 c2 (λhc=>QI ⟨hc.1.symm,hc.2.symm⟩) c1
  ·rw[if_neg UO]at e1;rw[hold r1 k1 o1 g1 UO]at f1;by_cases Sw:r2=r/\k2=k;·rw[if_pos Sw]at e2;cases e2;obtain⟨rfl,rfl⟩:=Sw;rw[Tg]at f2;cases f2;exact(key _ _ _ _ _ e1 f1 c1 UO c2).symm
   ·rw[if_neg Sw]at e2;rw[hold r2 k2 o2 g2 Sw]at f2;exact h.inj _ _ _ _ _ _ _ _ _ _ e1 e2 f1 f2 c1 c2 QI
 ·obtain⟨N,hN⟩:=h.fin;refine⟨max N (r+1),λr' SQ k'=>?_⟩;simp only[St.set];rw[if_neg (λhc=>om)]
  exact hN r' om k'
 ·intro r' k';obtain⟨N,hN⟩:=h.U0 r' k';refine⟨max N (g+1),λg' hg'=>?_⟩;show(if r'=r/\k'=k/\g'=g then some L else G.loc r' k' g')=none;rw[if_neg (λhc=>om)]
  exact hN g' om
theorem Rel.fresh(h:Rel G S w)(r k:Nat):∃g,G.loc r k g=none:=let ⟨N,hN⟩:=h.U0 r k;⟨N,hN N (le_refl _)⟩
theorem Rel.S6(h:Rel G S w):∃r,∀k,S r k=none:=let ⟨N,hN⟩:=h.fin;⟨N,hN N (le_refl _)⟩
theorem r_(w:World):w.grownBy w none:=⟨rfl,rfl,rfl,le_refl _,λ_ _ _=>rfl⟩
theorem ud(w:World)(o:Obj):w.grownBy (w.drew.alloc o) none:=⟨rfl,rfl,rfl,by simp,λk hk _=>Below.heap_alloc w.drew o k hk⟩
theorem Rel.drawn{G:Qh}{S:St}{w:World}(h:Rel G S w)(n:Nat):Rel G S { w with drawn:=n }:=⟨⟨⟨h.below.1.os,h.below.1.tape,h.below.1.output,h.below.1.size,h.below.1.block⟩,h.below.2⟩,h.RM,λr k o g e=>let ⟨L,a,b,c⟩:=h.obj r k o g e;⟨L,a,b.keep (Qh.le.refl G) (λ_=>rfl),c⟩,h.inj,h.fin,h.U0⟩
theorem Rel.turn(h:Rel G S w)(hi:G'.init=G.init)(him:G'.RM=G.RM)(hl:G'.loc=G.loc)(hg:w.grownBy w' row)(Ri:∀b,row=some b->G.init.heap.size<=b/\∃l,w.heap[b]? = some (.deferred l))(hd:∀b,G'.Xa b->w'.heap[b]? = some (.deferred (some [])))(hb:G'.base<=w'.heap.size):Rel G' S w':=by
 have hsb:G.sb G':=⟨λb o u e=>by rw[him];exact e,λr k g L e=>by rw[hl];exact e⟩;refine⟨⟨?_,hd,hb⟩,λb o u e=>?_,λr k o g e=>?_,λr k o g r' k' o' g' L L' e e' f f'=>?_,h.fin,λr k=>by rw[hl];exact h.U0 r k⟩
 ·rw[hi];refine h.below.1.trans ⟨hg.os,hg.tape,hg.output,hg.size,λb hb=>hg.block b (Nat.lt_of_lt_of_le hb h.below.1.size) (λe=>?_)⟩
  have:=(Ri b e.symm).1;have Sq:b<G.init.heap.size:=hb;omega
 ·rw[him]at e;have hc:=h.RM b o u e;refine hg.cell hc (λe'=>?_)
  obtain⟨_,l,UY⟩:=Ri b e'.symm;simp[World.cell?,UY]at hc
 ·obtain⟨L,f1,f2,f3⟩:=h.obj _ _ _ _ e;refine⟨L,by rw[hl];exact f1,f2.re hsb (λhc=>hg.block _ (f2.lt hc) (λe'=>?_)),λhc=>by rw[hi,him];exact f3 hc⟩;obtain⟨_,l,UY⟩:=Ri _ e'.symm;exact f2.undef hc l UY
 ·rw[hl]at f f';exact h.inj _ _ _ _ _ _ _ _ _ _ e e' f f'
theorem K2{k i j i' j':Nat}(hj:j<k)(SU:j'<k)(h:i*k+j=i'*k+j'):i=i'/\j=j':=by
 have h1:(i*k+j)/k=i:=by rw[mul_comm,Nat.mul_add_div om,Nat.div_eq_of_lt hj];rfl
 have h2:(i'*k+j')/k=i':=by rw[mul_comm,Nat.mul_add_div om,Nat.div_eq_of_lt SU];rfl
 have:i=i':=by rw[<-h1,h,h2]
 subst this;exact⟨rfl,om⟩
theorem qu{k i j n:Nat}(hi:i<n)(hj:j<k):i*k+j<n*k:=by have:(i+1)*k<=n*k:=mul_le_mul_right _ hi;rw[succ_mul]at this;omega
theorem jU.cell{G:Qh}{w:World}{L:Loc}{kk:Nat}{es:List AV}(h:jU G w L (.arr kk es)){i j:Nat}(hi:i<es.length)(hj:j<kk) :∃x,w.cell? ⟨L.block,i*L.k+j,none⟩=some x/\VR G (es[i].cells[j]'(by obtain⟨_,_,_,_,h4,_⟩:=h;rw[h4 i hi];exact hj)) x:=by obtain⟨h1,h2,h3,_,h4,h5⟩:=h;obtain⟨row,hr,hs,TW⟩:=h5 om;obtain⟨x,hx,hv⟩:=TW i hi j (by rw[h4 i hi];exact hj);refine⟨x,?_,hv⟩;rw[cell_of_row w _ _ row _ _ hr,h2];exact hx
end Go.Gg
namespace Go.Gg
inductive TD where
 | bool|int (k:IntKind)|str|ptr|slice (e:TypeId)|array (n:Nat) (e:TypeId)|map (k e:TypeId)|struct (fs:List (Nat×TypeId))|func|iface|other
def td(P:Program)(T:TypeId):TD:=
 match P.underlying T with
 | some .bool=>.bool
 | some (.int k)=>.int k
 | some .string=>.str
 | some (.pointer _)=>.ptr
 | some (.slice e)=>.slice e
 | some (.array n e)=>.array n e
 | some (.map k e)=>.map k e
 | some (.struct fs)=>.struct (fs.toList.map λf=>(f.offset,f.type))
 | some (.func ..)=>.func
 | some (.interface _)=>.iface
 | _=>.other
def sz(P:Program)(T:TypeId):Nat:=match P.info? T,P.underlying T with|some i,some _=>i.size|_,_=>0
def UQ(P:Program)(T:TypeId):Nat:=match P.info? T with|some i=>i.bytes|none=>0
def sS(P:Program)(T:TypeId):Value:=match P.info? T with|some i=>i.zero.getD undef|none=>undef
def QM(P:Program)(T:TypeId):AV:=ofConst (sS P T)
def di(P:Program)(T:TypeId):Bool:=match P.info? T with
 | some i=>(match i.zero with|some z=>z.cells.size==i.size&&z.cells.all (λc=>(ofConst c).one)&&(ofConst z).Q_&&decide (0<i.size)|none=>false)
 | none=>false
def bF(P:Program)(T:TypeId):Bool:=match td P T with|.struct _|.array _ _=>true|_=>false
def WA(P:Program)(T:TypeId)(cs:List AV)(off:Nat):AV:=bif bF P T then .agg ((cs.drop off).take (sz P T))else cs.getD off .Qz
def TN(v:AV)(off:Nat)(x:AV):AV:=match v with
 | .agg l=>.agg (l.take off++x.cells++l.drop (off+x.cells.length))
 | _=>x
def fo(l:List AV):Bool:=l.all AV.one
def rz:List IntKind->List AV->Option (List Int)
 | [],[]=>some []
 | k::ks,.int k' n::cs=>if k=k' then (match rz ks cs with|some ns=>some (n::ns)|none=>none)else none
 | _,_=>none
def kp(sh:Sh):AV->Option (List Int)
 | .int k n=>match sh with|.one k'=>if k=k' then some [n]else none|_=>none
 | .agg cs=>match sh with
  | .many ks=>rz ks cs
  | _=>none
 | _=>none
def GK(P:Program)(T:TypeId):Option IntKind:=match P.underlying T with|some (.int k)=>some k|_=>none
def yH(P:Program):List TypeId->Option (List IntKind)
 | []=>some []
 | T::l=>match GK P T,yH P l with|some k,some ks=>some (k::ks)|_,_=>none
def eK(P:Program)(T:TypeId):Option Sh:=match P.underlying T with
 | some (.int k)=>some (.one k)
 | some (.struct fs) => if (!P.stoodInHeld T && (fs.toList.map (·.offset) == range fs.toList.length) && fs.toList.all (·.name != "_")) = true then (yH P (fs.toList.map (·.type))).map .many else none
 | some (.array n e)=>if sz P e=1 then (GK P e).map λk=>.many (replicate n k)else none
 | _=>none
def vQ(op:BinOp)(k:IntKind)(m n:Int)(K:AV->Prop):Prop:=
 match op with
 | .add=>K (.int k (k.wrap (m+n)))
 | .sub=>K (.int k (k.wrap (m-n)))
 | .mul=>K (.int k (k.wrap (m*n)))
 | .quo=>n≠0/\K (.int k (k.wrap (m.tdiv n)))
 | .rem=>n≠0/\K (.int k (m.tmod n))
 | .and|.or|.xor|.andNot=>K (.int k (bits op k m n))
 | .eql=>K (.bool (m==n))
 | .neq=>K (.bool (m != n))
 | .lss=>K (.bool (decide (m<n)))
 | .leq=>K (.bool (decide (m<=n)))
 | .gtr=>K (.bool (decide (n<m)))
 | .geq=>K (.bool (decide (n<=m)))
 | _=>False
def sU(op:BinOp)(k:IntKind)(m n:Int)(K:AV->Prop):Prop:=
 match op with
 | .shl=>0<=n/\n<=k.bits/\K (.int k (k.wrap (m*2^n.toNat)))
 | .shr=>0<=n/\n<=k.bits/\K (.int k (m/2^n.toNat))
 | _=>False
def iU:Operand->Bool|.const _=>true|_=>false
def zH(P:Program)(op:BinOp)(T:TypeId)(x y:Operand)(a b:AV)(K:AV->Prop):Prop:=
 match a,b with
 | .int k m,.int k' n=>match op with
  | .shl|.shr=>sU op k m n K
  | _=>k=k'/\vQ op k m n K
 | .bool p,.bool q=>td P T = .bool/\(match op with|.eql=>K (.bool (p==q))|.neq=>K (.bool (p != q))|_=>False)
 | .str p,.str q=>td P T = .str/\(match op with|.eql=>K (.bool (p.toList==q.toList))|.neq=>K (.bool (p.toList != q.toList))|_=>False)
 | .Qg,.Qg=>td P T = .iface/\(iU x||iU y)=true/\(match op with|.eql=>K (.bool true)|.neq=>K (.bool false)|_=>False)
 | .iface _ _,.Qg|.Qg,.iface _ _=>td P T = .iface/\(match op with|.eql=>K (.bool false)|.neq=>K (.bool true)|_=>False)
 | .agg cs,.agg ds=>match eK P T with
  | some (.many ks)=>match rz ks cs,rz ks ds with
   | some m,some n=>(match op with|.eql=>K (.bool (decide (m=n)))|.neq=>K (.bool (!decide (m=n)))|_=>False)
   | _,_=>False
  | _=>False
 | _,_=>False
def Y1(op:UnOp)(a:AV)(K:AV->Prop):Prop:=
 match op,a with
 | .not,.bool b=>K (.bool (!b))
 | .neg,.int k n=>K (.int k (k.wrap (0-n)))
 | .xor,.int k n=>K (.int k (bits .xor k (if k.signed then -1 else k.max) n))
 | _,_=>False
def jK(P:Program)(T:TypeId)(a:AV)(S:St)(K:AV->Prop):Prop:=
 match a with
 | .ptr r k g i off=>match S r k with
  | some (.arr kk es,g')=>(g'=g/\i<es.length/\0<sz P T/\(bF P T=false->sz P T=1)/\off+sz P T<=kk)/\K (WA P T (es.getD i .Qz).cells off)
  | _=>False
 | .Q2 cs=>(0<sz P T/\(bF P T=false->sz P T=1)/\sz P T<=cs.length)/\K (WA P T cs 0)
 | _=>False
def gW(P:Program)(T:TypeId)(x i:AV)(K:AV->Prop):Prop:=
 match i with
 | .int _ n=>match td P T with
  | .slice e=>match x with
   | .sl kk r k g off len=>(0<=n/\n<len)/\(0<kk/\kk=sz P e)/\K (.ptr r k g (off+n.toNat) 0)
   | .list es=>(0<=n/\n<es.length)/\(0<sz P e/\(es.getD n.toNat .Qz).cells.length=sz P e)/\K (.Q2 (es.getD n.toNat .Qz).cells)
   | _=>False
  | .array len e=>match x with
   | .ptr r k g i off=>(0<=n/\n<len)/\0<sz P e/\K (.ptr r k g i (off+n.toNat*sz P e))
   | .Q2 cs=>(0<=n/\n<len)/\0<sz P e/\n.toNat*sz P e<=cs.length/\K (.Q2 (cs.drop (n.toNat*sz P e)))
   | _=>False
  | _=>False
 | _=>False
def pq(s:ByteArray)(n:Nat):Int:=if h:n<s.size then (s[n].toNat:Int)else 0
def oZ(P:Program)(T:TypeId)(x i:AV)(K:AV->Prop):Prop:=
 match i,x with
 | .int _ n,.agg cs=>match td P T with
  | .array len e=>(0<=n/\n<len)/\(0<sz P e/\(bF P e=false->sz P e=1)/\n.toNat*sz P e+sz P e<=cs.length)/\K (WA P e cs (n.toNat*sz P e))
  | _=>False
 | .int _ n,.str s=>match td P T with
  | .str=>(0<=n/\n<s.size)/\K (.int .u8 (pq s n.toNat))
  | _=>False
 | _,_=>False
def V2(lo:Option AV)(d:Nat):Option Int:=match lo with|none=>some (d:Int)|some (.int _ n)=>some n|_=>none
def lk(P:Program)(T:TypeId)(x:AV)(lo hi mx:Option AV)(K:AV->Prop):Prop:=
 match td P T,mx with
 | .slice e,none=>match x with
  | .sl kk r k g off len=>match V2 lo 0,V2 hi len with
   | some l,some h=>(0<=l/\l<=h/\h<=len)/\(0<kk/\kk=sz P e)/\K (.sl kk r k g (off+l.toNat) (h.toNat-l.toNat))
   | _,_=>False
  | .list es=>match V2 lo 0,V2 hi es.length with
   | some l,some h=>(0<=l/\l<=h/\h<=es.length)/\(0<sz P e/\(es.all λx=>x.cells.length==sz P e)=true)/\K (.list ((es.drop l.toNat).take (h.toNat-l.toNat)))
   | _,_=>False
  | _=>False
 | _,_=>False
def fy(P:Program)(T f:Nat)(x:AV)(K:AV->Prop):Prop:=
 match td P T with
 | .struct fs=>f<fs.length/\0<sz P (fs.getD f (0,0)).2/\(match x with
   | .ptr r k g i off=>K (.ptr r k g i (off+(fs.getD f (0,0)).1))
   | .Q2 cs=>(fs.getD f (0,0)).1<=cs.length/\K (.Q2 (cs.drop (fs.getD f (0,0)).1))
   | _=>False)
 | _=>False
def qc(P:Program)(T f:Nat)(x:AV)(K:AV->Prop):Prop:=
 match x with
 | .agg cs=>match td P T with
  | .struct fs=>(f<fs.length/\0<sz P (fs.getD f (0,0)).2/\(bF P (fs.getD f (0,0)).2=false->sz P (fs.getD f (0,0)).2=1)/\(fs.getD f (0,0)).1+sz P (fs.getD f (0,0)).2<=cs.length)/\
    K (WA P (fs.getD f (0,0)).2 cs (fs.getD f (0,0)).1)
  | _=>False
 | _=>False
def fR:AV->Bool|.agg _=>true|_=>false
def nM(P:Program)(T:Nat)(parts:List (Nat×AV))(K:AV->Prop):Prop:=
 match td P T with
 | .struct fs=>(di P T&&fR (QM P T)&&fs.all λf=>decide (0<sz P f.2))=true/\(parts.all λp=>p.2.Q_&&(p.2.cells.length==sz P (fs.getD p.1 (0,0)).2)&&decide (p.1<fs.length)&&decide ((fs.getD p.1 (0,0)).1+p.2.cells.length<=sz P T))=true/\
    K (parts.foldl (λv p=>TN v (fs.getD p.1 (0,0)).1 p.2) (QM P T))
 | .array _ e=>(di P T&&fR (QM P T)&&decide (0<sz P e))=true/\(parts.all λp=>p.2.Q_&&(p.2.cells.length==sz P e)&&decide (p.1*sz P e+p.2.cells.length<=sz P T))=true/\
    K (parts.foldl (λv p=>TN v (p.1*sz P e) p.2) (QM P T))
 | _=>False
def uM(P:Program)(T:Nat)(x:AV)(K:AV->Prop):Prop:=
 match td P T with
 | .slice _=>match x with
  | .sl _ _ _ _ _ n=>K (.int .i64 n)
  | .list es=>K (.int .i64 es.length)
  | .nil=>K (.int .i64 0)
  | _=>False
 | _=>False
def jL(P:Program)(T:Nat)(x:AV)(S:St)(K:AV->Prop):Prop:=
 match x with
 | .map r k g=>match S r k with
  | some (.mp _ n _,g')=>match td P T with
   | .map _ _=>g'=g/\K (.int .i64 n)
   | _=>False
  | _=>False
 | x=>uM P T x K
def iM(P:Program)(T:Nat)(ok:Bool)(x i:AV)(S:St)(K:AV->Prop):Prop:=
 match x with
 | .map r k g=>match S r k with
  | some (.mp sh _ f,g')=>match td P T,kp sh i with
   | .map kt et,some ns=>(g'=g/\eK P kt=some sh/\di P et=true)/\K (bif ok then .tuple [(f ns).getD (QM P et),.bool (f ns).isSome]else (f ns).getD (QM P et))
   | _,_=>False
  | _=>False
 | _=>False
def oN(P:Program)(T:Nat)(ok:Bool)(x:AV)(K:AV->Prop):Prop:=
 (match td P T with|.iface|.other=>False|_=>True)/\(match x with
  | .iface t v=>(t=T->bif ok then K (.tuple [v,.bool true])else K v)/\(t≠T->ok=true/\di P T=true/\K (.tuple [QM P T,.bool false]))
  | .Qg=>ok=true/\di P T=true/\K (.tuple [QM P T,.bool false])
  | _=>False)
def vq(P:Program)(o:Op)(e:Operand->AV)(S:St)(K:AV->Prop):Prop:=
 match o with
 | .move x|.assign x=>K (e x)
 | .pick c a b=>match e c with|.bool v=>K (bif v then e a else e b)|_=>False
 | .binOp op T x y _=>zH P op T x y (e x) (e y) K
 | .unOp op _ x=>Y1 op (e x) K
 | .convert src dst x=>match e x,td P dst,td P src with|.int _ n,.int k,.int _=>K (.int k (k.wrap n))|_,_,_=>False
 | .makeInterface T x=>(match td P T with|.iface|.other=>False|_=>True)/\K (.iface T (e x))
 | .makeFunc fn first QG=>K (.fn fn (first.toList.map e) (QG.toList.map e))
 | .build T parts=>nM P T (parts.toList.map λp=>(p.1,e p.2)) K
 | .load T a=>jK P T (e a) S K
 | .nilCheck x=>(match e x with|.ptr ..|.Q2 _=>True|.fn (.func _) _ _=>True|_=>False)/\K (e x)
 | .fieldAddr T x f=>fy P T f (e x) K
 | .field T x f=>qc P T f (e x) K
 | .indexAddr T x i=>gW P T (e x) (e i) K
 | .index T x i=>oZ P T (e x) (e i) K
 | .slice T x lo hi mx=>lk P T (e x) (lo.map e) (hi.map e) (mx.map e) K
 | .extract x i=>match e x with|.tuple vs=>i<vs.length/\K (vs.getD i .Qz)|_=>False
 | .typeAssert x _ T ok=>oN P T ok (e x) K
 | .lookup T x i ok=>iM P T ok (e x) (e i) S K
 | .call { callee:=.builtin .len,args:=xs,argTypes:=ts }=>match xs.toList,ts.toList with
  | [x],[t]=>jL P t (e x) S K
  | _,_=>False
 | .call { callee:=.builtin .max,args:=xs,argTypes:=_ }=>match xs.toList with
  | [x,y]=>(match e x,e y with|.int k m,.int _ n=>K (.int k (if m<n then n else m))|_,_=>False)
  | _=>False
 | .call { callee:=.builtin .min,args:=xs,argTypes:=_ }=>match xs.toList with
  | [x,y]=>(match e x,e y with|.int k m,.int _ n=>K (.int k (if n<m then n else m))|_,_=>False)
  | [x,y,z]=>(match e x,e y,e z with|.int k m,.int _ n,.int _ q=>K (.int k (if q<(if n<m then n else m)then q else (if n<m then n else m)))|_,_,_=>False)
  | _=>False
 | _=>False
def QOp(P:Program)(o:Oper)(e:Operand->AV)(S:St)(K:AV->Prop):Prop:=
 ∀(G:Qh) (ρ:Operand->Value) (w:World),Rel G S w->(∀x,VR G (e x) (ρ x))->
  ∃v av,(execOp ρ o).run P w = .ok (.value v) w/\K av/\VR G av v
variable{k:IntKind}{n:Nat}{e:TypeId}{w:World}
section
variable{P:Program}{T:TypeId}
theorem JR(h:td P T = .bool):P.underlying T=some .bool:=by unfold td at h;split at h<;>first|assumption|cases h
theorem HC(h:td P T = .int k):P.underlying T=some (.int k):=by unfold td at h;split at h<;>first|(cases h;assumption)|cases h
theorem iw(h:td P T = .slice e):P.underlying T=some (.slice e):=by unfold td at h;split at h<;>first|(cases h;assumption)|cases h
theorem tI(h:td P T = .array n e):P.underlying T=some (.array n e):=by unfold td at h;split at h<;>first|(cases h;assumption)|cases h
theorem Bm{k:TypeId}(h:td P T = .map k e):P.underlying T=some (.map k e):=by unfold td at h;split at h<;>first|(cases h;assumption)|cases h
theorem rN{fs:List (Nat×TypeId)}(h:td P T = .struct fs):∃fields:Array Field,P.underlying T=some (.struct fields)/\fs=fields.toList.map λf=>(f.offset,f.type):=by unfold td at h;split at h<;>first|(cases h;exact⟨_,by assumption,rfl⟩)|cases h
theorem xD(h:td P T = .iface):∃ms,P.underlying T=some (.interface ms):=by unfold td at h;split at h<;>first|exact⟨_,by assumption⟩|cases h
theorem vR(h:(match td P T with|.iface|.other=>False|_=>True)):∃d,P.underlying T=some d/\∀ms,d≠.interface ms:=by
 unfold td at h;cases hu:P.underlying T with
 | none=>rw[hu]at h;exact h.elim
 | some d=>
  refine⟨d,rfl,λms e=>?_⟩;subst e;rw[hu]at h;exact h
theorem Bq(h:0<sz P T):∃i d,P.info? T=some i/\P.underlying T=some d/\i.size=sz P T:=by
 unfold sz at h ⊢;cases hi:P.info? T with
 | none=>simp[hi]at h
 | some i=>
  cases hu:P.underlying T with
  | none=>simp[hi,hu]at h
  | some d=>exact⟨i,d,rfl,rfl,rfl⟩
theorem ee(h:0<sz P T):(sizeOf T).run P w = .ok (sz P T) w:=by obtain⟨i,d,hi,_,hs⟩:=Bq h;simp[sizeOf,typeInfo,hi,hs]
theorem Ap(h:bF P T=true):(isAgg T).run P w = .ok true w:=by
 unfold bF at h;split at h;·rename_i hd;obtain⟨fs,hf,_⟩:=rN hd;simp[isAgg,run_underlying hf]
 ·rename_i hd;simp[isAgg,run_underlying (tI hd)]
 ·cases h
theorem xM{d:TypeDesc}(hd:P.underlying T=some d)(h:bF P T=false):(isAgg T).run P w = .ok false w:=by unfold bF td at h;rw[hd]at h;simp only[isAgg,Sem.run_bind,run_underlying hd,Result.andThen_ok];cases d<;>first|rfl|(simp at h)
end
variable{T:TypeId}{cs:List AV}{off:Nat}
section
variable{P:Program}{w:World}{G:Qh}
theorem vU{c x:Nat}(RP:0<sz P T)(Si:bF P T=false->sz P T=1)(hl:off+sz P T<=cs.length)(hc:∀j (h:j<cs.length),∃u,w.cell? ⟨c,x+j,none⟩=some u/\VR G cs[j] u) :∃v,(loadVar T ⟨c,x+off,none⟩).run P w = .ok v w/\VR G (WA P T cs off) v:=by
 have Zn:∀j,(⟨c,x+off,none⟩:Addr).add j=⟨c,x+(off+j),none⟩:=λj=>by unfold Addr.add;split<;>simp_all [add_assoc]
 cases ha:bF P T with
 | true=>
  obtain⟨f,hf⟩:∃f:Nat->Value,∀j (h:j<sz P T),w.cell? ⟨c,x+(off+j),none⟩=some (f j)/\VR G (cs[off+j]'om) (f j):=by refine⟨λj=>if h:j<sz P T then (hc (off+j) om).choose else undef,λj h=>?_⟩;simp only[h,dite_true];exact(hc (off+j) om).choose_spec
  have hr:=run_loadCells (P:=P) w ⟨c,x+off,none⟩ (sz P T) f (λj hj=>by rw[Zn];exact(hf j hj).1);refine⟨.agg ((range (sz P T)).map f).toArray,?_,?_⟩;·simp only[loadVar,Sem.run_bind,Ap ha,Result.andThen_ok,if_true,ee RP,hr,Sem.run_pure]
  ·simp only[WA,ha,cond_true];refine .agg _ _ (by simp;omega) (λi h h'=>?_);simp only[length_take,length_drop]at h;simp only[getElem_take,getElem_drop,List.getElem_toArray,List.getElem_map,List.getElem_range];exact(hf i om).2
 | false=>
  obtain⟨_,d,_,hd,_⟩:=Bq RP;have h1:=Si ha;obtain⟨u,VO,Z1⟩:=hc off om;refine⟨u,?_,?_⟩;·simp only[loadVar,Sem.run_bind,xM hd ha,Result.andThen_ok,Bool.false_eq_true,if_false,run_load,VO]
  ·simp only[WA,ha,cond_false];rw[List.getD_eq_getElem?_getD,List.getElem?_eq_getElem om];exact Z1
end
variable{K:AV->Prop}{a i:AV}{x y:Value}{f:Nat}
section
variable{P:Program}{G:Qh}{S:St}{w:World}
theorem Ic(hr:Rel G S w)(hx:VR G a x)(h:jK P T a S K) :∃v av,(Instr.loadAt T x).run P w = .ok v w/\K av/\VR G av v:=by
 unfold jK at h;cases hx with
 | ptr r k g i off L' R5=>
  simp only at h;split at h
  ·rename_i kk es g' hS;obtain⟨⟨rfl,hi,RP,Si,adH⟩,hk⟩:=h;obtain⟨L,hL,Q',_⟩:=hr.obj _ _ _ _ hS;obtain rfl:L=L':=by rw[hL]at R5;exact Option.some.inj R5
   have hlen:es[i].cells.length=kk:=Q'.2.2.2.2.1 i hi;have hk1:L.k=kk:=Q'.2.1
   obtain⟨v,hv1,hv2⟩:=vU (P:=P) (w:=w) (G:=G) (T:=T) (c:=L.block) (x:=i*L.k) (cs:=es[i].cells) RP Si (off:=off) om
    (λj hj=>by
     obtain⟨u,VO,Z1⟩:=Q'.cell hi (j:=j) om;exact⟨u,VO,Z1⟩)
   refine⟨v,_,?_,hk,?_⟩;·simp only[Instr.loadAt,Instr.sureAddr,Sem.run_bind,Sem.run_pure,Result.andThen_ok];exact hv1
   ·rw[List.getD_eq_getElem?_getD,List.getElem?_eq_getElem hi];exact hv2
  ·exact h.elim
 | Q2 cs c x u VO Z1=>
  obtain⟨⟨RP,Si,adH⟩,hk⟩:=h
  obtain⟨v,hv1,hv2⟩:=vU (P:=P) (w:=w) (G:=G) (T:=T) (c:=c) (x:=x) (cs:=cs) RP Si (off:=0) om
    (λj hj=>⟨u j,hr.RM _ _ _ (VO j hj),Z1 j hj⟩)
  refine⟨v,_,?_,hk,hv2⟩;simp only[Instr.loadAt,Instr.sureAddr,Sem.run_bind,Sem.run_pure,Result.andThen_ok];exact hv1
 | _=>exact h.elim
theorem xN{a:Addr}{f:Field}(h:0<sz P f.type):(fieldPlace a f).run P w = .ok (a.add f.offset) w:=by have h0:¬sz P f.type=0:=om;simp[fieldPlace,ee h,h0]
theorem BS{fields:Array Field}(h:f<(fields.toList.map λf=>(f.offset,f.type)).length) :∃fd,fields[f]? = some fd/\(fields.toList.map λf=>(f.offset,f.type)).getD f (0,0)=(fd.offset,fd.type):=by simp only[List.length_map,length_toList]at h;refine⟨fields[f],by simp[h],?_⟩;rw[List.getD_eq_getElem?_getD];simp[h]
theorem iL(c x n:Nat):(⟨c,x,none⟩:Addr).add n=⟨c,x+n,none⟩:=by unfold Addr.add;split<;>simp_all
theorem VR.U4{c x:Nat}{u:Nat->Value}(h1:∀j,j<cs.length->G.RM c (x+j)=some (u j))(h2:∀j (h:j<cs.length),VR G cs[j] (u j)) :VR G (.Q2 (cs.drop n)) (.pointer (some ⟨c,x+n,none⟩)):=by
 refine .Q2 _ c (x+n) (λj=>u (n+j)) (λj hj=>?_) (λj hj=>?_);·simp only[length_drop]at hj;rw[add_assoc];exact h1 _ om
 ·simp only[length_drop]at hj;rw[getElem_drop];exact h2 _ om
theorem CP{T:Nat}(hx:VR G a x)(h:fy P T f a K) :∃v av,(Instr.fieldAt T x f).run P w = .ok v w/\K av/\VR G av v:=by
 unfold fy at h;split at h
 ·rename_i fs hd;obtain⟨fields,hu,rfl⟩:=rN hd;obtain⟨hf,RP,h⟩:=h;obtain⟨fd,hfd,hg⟩:=BS hf;rw[hg]at h RP;simp only at h RP;have key:∀ad:Addr,(Instr.fieldAt T (.pointer (some ad)) f).run P w = .ok (.pointer (some (ad.add fd.offset))) w:=by intro ad;simp only[Instr.fieldAt,Sem.run_bind,run_underlying hu,Result.andThen_ok,hfd,Instr.sureAddr,Sem.run_pure,xN RP]
  cases hx with
  | ptr r k g i off L hL=>exact⟨_,_,key _,h,by rw[iL,add_assoc];exact .ptr _ _ _ _ _ L hL⟩
  | Q2 cs c x u h1 h2=>exact⟨_,_,key _,h.2,by rw[iL];exact VR.U4 h1 h2⟩
  | _=>exact h.elim
 ·exact h.elim
theorem Gq{T:Nat}(hx:VR G a x)(hy:VR G i y)(h:gW P T a i K) :∃v av,(Instr.indexAt T x y).run P w = .ok v w/\K av/\VR G av v:=by
 unfold gW at h;cases hy with
 | int ki n=>
  simp only at h;split at h
  ·rename_i e hd;have hu:=iw hd;cases hx with
   | sl kk r k g off len a L hL hk hc hm ha=>
    obtain⟨⟨h0,h1⟩,⟨Xm,SZ⟩,hK⟩:=h;have ha':=ha om;subst ha';refine⟨.pointer (some ((⟨L.block,off*L.k,none⟩:Addr).add (n.toNat*sz P e))),_,?_,hK,?_⟩;·simp[Instr.indexAt,asIntOf,run_underlying hu,h0,h1,ee (P:=P) (T:=e) om]
    ·rw[iL,<-SZ,<-hk,<-add_mul];exact .ptr _ _ _ _ 0 L hL
   | list es a len cap c x k u hn Sp hm ha hk hi hv=>
    obtain⟨⟨h0,h1⟩,⟨hs0,SZ⟩,hK⟩:=h;have ha':=ha om;subst ha';have QH:n.toNat<es.length:=om;have TV:es.getD n.toNat .Qz=es[n.toNat]:=by rw[List.getD_eq_getElem?_getD,List.getElem?_eq_getElem QH];rfl
    rw[TV]at SZ hK;have ahf:k=sz P e:=(hk _ QH).symm.trans SZ;refine⟨.pointer (some ((⟨c,x,none⟩:Addr).add (n.toNat*sz P e))),_,?_,hK,?_⟩;·have Xq:n<(len:Int):=om;simp[Instr.indexAt,asIntOf,run_underlying hu,h0,Xq,ee (P:=P) (T:=e) hs0]
    ·rw[iL,<-ahf];refine .Q2 _ c _ (u n.toNat) (λj hj=>?_) (λj hj=>hv _ QH j hj);rw[hk _ QH]at hj;rw[add_assoc];exact hi _ _ om hj
   | _=>exact h.elim
  ·rename_i len e hd;have hu:=tI hd;cases hx with
   | ptr r k g i off L hL=>
    obtain⟨⟨h0,h1⟩,RP,hK⟩:=h;refine⟨.pointer (some ((⟨L.block,i*L.k+off,none⟩:Addr).add (n.toNat*sz P e))),_,?_,hK,?_⟩;·simp[Instr.indexAt,asIntOf,run_underlying hu,h0,h1,Instr.sureAddr,ee RP]
    ·rw[iL,add_assoc];exact .ptr _ _ _ _ _ L hL
   | Q2 cs c x u q1 q2=>
    obtain⟨⟨h0,h1⟩,RP,hle,hK⟩:=h;refine⟨.pointer (some ((⟨c,x,none⟩:Addr).add (n.toNat*sz P e))),_,?_,hK,?_⟩;·simp[Instr.indexAt,asIntOf,run_underlying hu,h0,h1,Instr.sureAddr,ee RP]
    ·rw[iL];exact VR.U4 q1 q2
   | _=>exact h.elim
  ·exact h.elim
 | _=>exact h.elim
end
variable{v v':Value}{ns Ss:List Int}{ks:List IntKind}{xs:Array Value}{op:BinOp}
section
variable{P:Program}
theorem AC(h:GK P T=some k):P.underlying T=some (.int k):=by
 unfold GK at h;split at h;·rename_i k' hu;cases h;exact hu
 ·cases h
theorem Df:∀ {l:List TypeId} {ks:List IntKind},yH P l=some ks->ks.length=l.length/\∀(i:Nat) (T:TypeId),l[i]? = some T->∃k,ks[i]? = some k/\P.underlying T=some (.int k)
 | [],ks,h=>by simp only[yH,Option.some.injEq]at h;subst h;exact⟨rfl,λi T hi=>by simp at hi⟩
 | T::l,ks,h=>by
  unfold yH at h;split at h
  ·rename_i k ks' h1 h2;cases h;obtain⟨a,b⟩:=Df h2;refine⟨by simp[a],λi T' hi=>?_⟩;cases i with
   | zero=>simp at hi;subst hi;exact⟨k,rfl,AC h1⟩
   | succ i=>simpa using b i T' (by simpa using hi)
  ·cases h
theorem iP(hu:P.underlying e=some (.int k))(hx:xs[off]? = some v)(w:World):(part e xs off).run P w = .ok v w:=by simp[part,isAgg,run_underlying hu,hx]
theorem ph(hu:P.underlying e=some (.int k))(em:Bool)(d:Nat)(n:Int)(w:World):(Instr.checkKey em (d+1) e (.int k n)).run P w = .ok () w:=by simp[Instr.checkKey,run_underlying hu]
theorem oh{i:Nat}(hl:ks.length=ns.length)(h:ks[i]? = some k) :(((ks.zip ns).map λp=>Value.int p.1 p.2).toArray)[i]? = some (.int k (ns.getD i 0)):=by
 obtain⟨hi,rfl⟩:=List.getElem?_eq_some_iff.1 h;have hn:i<ns.length:=om;have hz:i<(ks.zip ns).length:=by simp;omega
 simp[List.getElem?_eq_getElem hz,List.getElem_zip,List.getD_eq_getElem?_getD,hn]
theorem uP{fs:Array Field}(hu:P.underlying T=some (.struct fs))(em:Bool)(d:Nat)(w:World)
  (h : ∀ f ∈ fs.toList, f.name ≠ "_" ∧ ∃ k n, P.underlying f.type = some (.int k) ∧ xs[f.offset]? = some (.int k n)) : (Instr.checkKey em (d + 1 + 1) T (.agg xs)).run P w = .ok () w := by
 rw[Instr.checkKey];simp only[Sem.run_bind,run_underlying hu,Result.andThen_ok];rw[<-Array.forIn_toList];generalize fs.toList=L at h;induction L with
 | nil=>simp
 | cons f L ih=>
  obtain⟨hn,k,n,h1,h2⟩:=h f Qy;simp only[List.forIn_cons,Sem.run_bind,hn,ne_eq,not_false_eq_true,if_true,Result.andThen_ok,iP h1 h2,ph h1,Sem.run_pure];exact ih (λy hy=>h y (by simp[hy]))
theorem wq(hu:P.underlying T=some (.array n e))(he:P.underlying e=some (.int k))(hs:sz P e=1)(em:Bool)(d:Nat)(w:World)(h:∀i,i<n->∃m,xs[i]? = some (.int k m)):(Instr.checkKey em (d+1+1) T (.agg xs)).run P w = .ok () w:=by
 have RP:∀w:World,(sizeOf e).run P w = .ok 1 w:=λw=>by rw[<-hs];exact ee om
 rw[Instr.checkKey];simp only[Sem.run_bind,run_underlying hu,Result.andThen_ok];simp only[Std.Legacy.Range.forIn_eq_forIn_range',Std.Legacy.Range.size,Nat.sub_zero,Nat.add_one_sub_one,Nat.div_one];have each:∀i∈List.range' 0 n,∃m,xs[i]? = some (.int k m):=λi hi=>h i (by simpa using hi);generalize List.range' 0 n=is at each;induction is with
 | nil=>simp
 | cons j is ih=>
  obtain⟨m,hm⟩:=each j Qy;simp only[List.forIn_cons,Sem.run_bind,RP,Result.andThen_ok,Nat.mul_one,iP he hm,ph he,Sem.run_pure];exact ih (λy hy=>each y (by simp[hy]))
def ic(x:Option Value):Int:=match x with|some (.int _ n)=>n|_=>0
theorem sH {xs ys : Array Value} (d : Nat) (w : World) : ∀ L : List Field, (∀ f ∈ L, f.name ≠ "_" ∧ ∃ k a b, P.underlying f.type = some (.int k) ∧ xs[f.offset]? = some (.int k a) ∧ ys[f.offset]? = some (.int k b)) →
  (Op.eqFields (d+1) xs ys L).run P w = .ok (L.all λf=>ic xs[f.offset]? == ic ys[f.offset]?) w
 | [],_=>by simp[Op.eqFields]
 | f::L,h=>by
  obtain⟨hn,k,a,b,h1,h2,h3⟩:=h f Qy;have ih:=sH d w L (λy hy=>h y (by simp[hy]));simp only[Op.eqFields,hn,ne_eq,not_false_eq_true,if_true,Sem.run_bind,iP h1 h2,iP h1 h3,run_equalIn_int w d _ _ _ _ _ h1,Result.andThen_ok];rw[List.all_cons,h2,h3,show ic (some (Value.int k a))=a from rfl,show ic (some (Value.int k b))=b from rfl];cases a==b;·simp
  ·simpa using ih
theorem tM{e:TypeId}{k:IntKind}(he:P.underlying e=some (.int k)){xs ys:Array Value}(d:Nat)(w:World):∀is:List Nat,(∀i∈is,∃a b,xs[i]? = some (.int k a)/\ys[i]? = some (.int k b))->(Op.eqItems (d+1) e 1 xs ys is).run P w = .ok (is.all λi=>ic xs[i]? == ic ys[i]?) w
 | [],_=>by simp[Op.eqItems]
 | i::is,h=>by
  obtain⟨a,b,h2,h3⟩:=h i Qy;have ih:=tM he d w is (λy hy=>h y (by simp[hy]));simp only[Op.eqItems,Nat.mul_one,Sem.run_bind,iP he h2,iP he h3,run_equalIn_int w d _ _ _ _ _ he,Result.andThen_ok];rw[List.all_cons,h2,h3,show ic (some (Value.int k a))=a from rfl,show ic (some (Value.int k b))=b from rfl];cases a==b;·simp
  ·simpa using ih
theorem Jn(h:ks.length=ns.length)(h':ks.length=Ss.length) :((range ks.length).all λi=>ic (((ks.zip ns).map λp=>Value.int p.1 p.2).toArray)[i]? == ic (((ks.zip Ss).map λp=>Value.int p.1 p.2).toArray)[i]?)=decide (ns=Ss):=by
 rw[Bool.eq_iff_iff,all_eq_true,decide_eq_true_eq];have hc:∀(l:List Int),ks.length=l.length->∀i,i<ks.length->ic (((ks.zip l).map λp=>Value.int p.1 p.2).toArray)[i]? = l.getD i 0:=λl hl i hi=>by rw[oh hl (List.getElem?_eq_getElem hi)];rfl
 constructor;·intro hh;refine List.ext_getElem om λi h1 h2=>?_;have:=hh i (by simp;omega);rw[hc ns h i om,hc Ss h' i om]at this;simpa[List.getD_eq_getElem?_getD,h1,h2]using this
 ·intro hh i _;subst hh;simp
theorem iE(h:gA (.many ks) ns=some v):ks.length=ns.length/\v = .agg ((ks.zip ns).map λp=>Value.int p.1 p.2).toArray:=by
 unfold gA at h;simp only at h;split at h;·rename_i hl;exact⟨hl,(Option.some.inj h).symm⟩
 ·cases h
theorem pO(h:gA (.one k) ns=some v):∃n,ns=[n]/\v = .int k n:=by
 unfold gA at h;split at h;·rename_i k' n he;cases he;exact⟨n,rfl,(Option.some.inj h).symm⟩
 ·rename_i he;cases he
 ·cases h
theorem rW{sh:Sh}(h:gA sh ns=some v)(h':gA sh Ss=some v):ns=Ss:=by
 cases sh with
 | one k=>
  obtain⟨n,rfl,rfl⟩:=pO h;obtain⟨n',rfl,e⟩:=pO h';cases e;rfl
 | many ks=>
  obtain⟨a,rfl⟩:=iE h;obtain⟨b,e⟩:=iE h';have hd:decide (ns=Ss)=true:=by rw[<-Jn a b,<-Value.agg.inj e];simp
  simpa using hd
theorem mf(h:eK P T=some (.many ks)) :
  (∃ fs : Array Field, P.underlying T = some (.struct fs) ∧ P.stoodInHeld T = false ∧ fs.toList.map (·.offset) = range ks.length ∧ ∀ f ∈ fs.toList, f.name ≠ "_" ∧ ∃ k, ks[f.offset]? = some k ∧ P.underlying f.type = some (.int k)) ∨
  ∃n e k,P.underlying T=some (.array n e)/\P.underlying e=some (.int k)/\sz P e=1/\ks=replicate n k:=by
 unfold eK at h;split at h;·cases h
 ·rename_i fs hu;split at h
  ·rename_i hc;simp only[and_eq_true,Bool.not_eq_true',beq_iff_eq,all_eq_true,bne_iff_ne,ne_eq]at hc;obtain⟨⟨h1,h2⟩,h3⟩:=hc;cases hk:yH P (fs.toList.map (·.type))with
   | none=>rw[hk]at h;cases h
   | some ks'=>
    rw[hk]at h;cases h;obtain⟨a,b⟩:=Df hk;simp only[List.length_map]at a;refine .inl ⟨fs,hu,h1,by rw[h2,a],λf hf=>⟨h3 f hf,?_⟩⟩;obtain⟨i,hi,rfl⟩:=List.mem_iff_getElem.1 hf;have ho:(fs.toList[i]).offset=i:=by have:=congrArg (λl=>l[i]?) h2;simp only[List.getElem?_map,List.getElem?_eq_getElem hi,map_some,List.getElem?_range hi]at this;exact Option.some.inj this
    rw[ho];exact b i _ (by simp only[List.getElem?_map,List.getElem?_eq_getElem hi,map_some])
  ·cases h
 ·rename_i n e hu;split at h
  ·rename_i hs;cases hk:GK P e with
   | none=>rw[hk]at h;cases h
   | some k=>
    rw[hk]at h;cases h;exact .inr ⟨n,e,k,hu,AC hk,hs,rfl⟩
  ·cases h
 ·cases h
theorem yF(h:eK P T=some (.one k)):P.underlying T=some (.int k):=by
 unfold eK at h;split at h;·rename_i k' hu;cases h;exact hu
 ·split at h
  ·cases hk:yH P (List.map _ _)with
   | none=>rw[hk]at h;cases h
   | some ks'=>rw[hk]at h;cases h
  ·cases h
 ·split at h
  ·cases hk:GK P _ with
   | none=>rw[hk]at h;cases h
   | some k=>rw[hk]at h;cases h
  ·cases h
 ·cases h
variable{T:TypeId}{sh:Sh}
theorem nH(hk:eK P T=some sh)(hv:gA sh ns=some v)(w:World)(em:Bool):(Instr.checkKey em 10000 T v).run P w = .ok () w:=by
 cases sh with
 | one k=>
  obtain⟨n,rfl,rfl⟩:=pO hv;exact ph (yF hk) em 9999 n w
 | many ks=>
  obtain⟨hl,rfl⟩:=iE hv;rcases mf hk with⟨fs,hu,_,_,h⟩|⟨n,e,k,hu,he,hs,rfl⟩;·exact uP hu em 9998 w λf hf=>let ⟨a,k,b,c⟩:=h f hf;⟨a,k,_,c,oh hl b⟩
  ·exact wq hu he hs em 9998 w λi hi=>⟨_,oh hl (by simp[hi])⟩
theorem Dc(hk:eK P T=some (.many ks))(hv:gA (.many ks) ns=some v)(hv':gA (.many ks) Ss=some v')(w:World):(Op.equal T v v').run P w = .ok (decide (ns=Ss)) w:=by
 obtain⟨hl,rfl⟩:=iE hv;obtain⟨UY,rfl⟩:=iE hv';rw[<-Jn hl UY];rcases mf hk with⟨fs,hu,Uf,hof,h⟩|⟨n,e,k,hu,he,hs,rfl⟩
 ·have hf:P.fieldsOf T=fs:=by simp[Program.fieldsOf,hu]
  rw[show Op.equal T _ _=Op.equalIn (9998+1+1) T _ _ from rfl,run_equalIn_struct w (9998+1) T _ _ (by rw[hf];exact hu) Uf,hf,sH 9998 w];·rw[<-hof,List.all_map];rfl
  ·exact λf hf'=>let ⟨a,k,b,c⟩:=h f hf';⟨a,k,_,_,c,oh hl b,oh UY b⟩
 ·obtain⟨i,d,hi,_,RP⟩:=Bq (P:=P) (T:=e) om;have hc:P.cellsOf e=1:=by simp[Program.cellsOf,hi,RP,hs]
  rw[show Op.equal T _ _=Op.equalIn (9998+1+1) T _ _ from rfl,run_equalIn_array w (9998+1) _ _ hu hi,hc,tM he 9998 w];·rw[List.length_replicate]
  ·exact λj hj=>⟨_,_,oh hl (by simp at hj;simp[hj]),oh UY (by simp at hj;simp[hj])⟩
theorem Db(hk:eK P T=some sh)(hv:gA sh ns=some v)(w:World)(es:List MapEntry)(Zj:∀e∈es,∃Ss,gA sh Ss=some e.key) :((Instr.findKey T v es).run P w = .ok none w/\∀e∈es,e.key≠v)\/∃j e,(Instr.findKey T v es).run P w = .ok (some (j,e.val)) w/\es[j]? = some e/\e.key=v:=by
 cases sh with
 | one k=>
  have hu:=yF hk;have hI:∀(ns:List Int) (v:Value),gA (.one k) ns=some v->MapKept.IsKey (.int k) v:=λns v h=>by obtain⟨n,rfl,rfl⟩:=pO h;exact rfl
  rcases MapKept.findNow_spec (hI _ _ hv) es 0 (λe he=>let ⟨Ss,h⟩:=Zj e he;hI _ _ h)with⟨h1,h2⟩|⟨j,e,h1,h2,h3⟩;·exact .inl ⟨MapKept.run_findKey hu h1,h2⟩
  ·exact .inr ⟨j,e,by rw[MapKept.run_findKey hu h1,zero_add],h2,h3⟩
 | many ks=>
  rw[run_findKey_eq w (by rcases mf hk with⟨fs,hu,_⟩|⟨n,e,k,hu,_⟩<;>rw[hu])]
  have key:∀(es:List MapEntry) (i:Nat),(∀e∈es,∃Ss,gA (.many ks) Ss=some e.key)->
    ((Instr.findAsking T v es i).run P w = .ok none w/\∀e∈es,e.key≠v)\/∃j e,(Instr.findAsking T v es i).run P w = .ok (some (i+j,e.val)) w/\es[j]? = some e/\e.key=v:=by
   intro es;induction es with
   | nil=>exact λi _=>.inl ⟨by simp[Instr.findAsking],by simp⟩
   | cons e es ih=>
    intro i Zj;obtain⟨Ss,hn⟩:=Zj e Qy;have hr:=Dc hk hv hn w;by_cases he:ns=Ss;·subst he;rw[decide_eq_true rfl]at hr;exact .inr ⟨0,e,by simp[Instr.findAsking,hr],rfl,Option.some.inj (hn.symm.trans hv)⟩
    ·rw[decide_eq_false he]at hr;have QI:e.key≠v:=λh=>he (rW hv (by rw[<-h];exact hn));rcases ih (i+1) (λy hy=>Zj y (by simp[hy]))with⟨h1,h2⟩|⟨j,e',h1,h2,h3⟩
     ·exact .inl ⟨by simp[Instr.findAsking,hr,h1],λy hy=>by
       rcases List.mem_cons.1 hy with rfl|hy;·exact QI
       ·exact h2 y hy⟩
     ·exact .inr ⟨j+1,e',by simp[Instr.findAsking,hr,h1,add_assoc,Nat.add_comm 1 j],by simpa using h2,h3⟩
  rcases key es 0 Zj with h|⟨j,e,h1,h2,h3⟩;·exact .inl h
  ·exact .inr ⟨j,e,by simpa using h1,h2,h3⟩
theorem GI(hv:gA sh ns=some v)(w:World):(Instr.keyThatStays v v).run P w = .ok v w:=by
 have hs:Instr.sameBits 10000 v v=true:=by
  cases sh with
  | one k=>
   obtain⟨n,rfl,rfl⟩:=pO hv;simp[Instr.sameBits]
  | many ks=>
   obtain⟨hl,rfl⟩:=iE hv;show Instr.sameBits (9999+1) _ _=true;simp only[Instr.sameBits,beq_self_eq_true,Bool.true_and,all_eq_true];intro p hp;obtain⟨i,hi,e⟩:=List.getElem_of_mem hp;rw[List.getElem_zip]at e;rw[<-e];simp[Instr.sameBits]
 simp[Instr.keyThatStays,hs]
theorem BV{x y:Operand}(hk:eK P T=some (.many ks))(hv:gA (.many ks) ns=some v)(hv':gA (.many ks) Ss=some v'):(eqGuard op T x y v v').run P w = .ok () w:=by
 obtain⟨_,rfl⟩:=iE hv;obtain⟨_,rfl⟩:=iE hv';have hi:∀(d:Nat) (e:TypeId) (k:IntKind),P.underlying e=some (.int k)->P.eqGuardType (d+1) e=false:=λd e k he=>by simp[Program.eqGuardType,he]
 have hg:P.eqGuardType P.depth T=false:=by
  rw[show P.depth=2*(P.types.size+Made.depth)+1+1 from rfl];rcases mf hk with⟨fs,hu,_,_,h⟩|⟨n,e,k,hu,he,_,_⟩;·rw[Program.eqGuardType,hu];simp only[<-Array.any_toList,List.any_eq_false];intro f hf;obtain⟨_,k,_,Wn⟩:=h f hf;simp[hi _ _ _ Wn]
  ·rw[Program.eqGuardType,hu];exact hi _ _ _ he
 unfold eqGuard;cases op<;>simp[hg]
theorem FO{G:Qh}:∀ {ks:List IntKind} {cs:List AV} {xs:List Value} {ns:List Int},rz ks cs=some ns->xs.length=cs.length->(∀i (h:i<cs.length) (h':i<xs.length),VR G cs[i] xs[i])->ks.length=ns.length/\xs=(ks.zip ns).map λp=>Value.int p.1 p.2
 | [],[],xs,ns,h,hl,_=>by simp only[rz,Option.some.injEq]at h;subst h;exact⟨rfl,List.eq_nil_of_length_eq_zero (by simpa using hl)⟩
 | k::ks,c::cs,xs,ns,h,hl,hv=>by
  cases xs with
  | nil=>simp at hl
  | cons x xs=>
   cases c with
   | int k' n=>
    simp only[rz]at h;split at h
    ·rename_i SZ;subst SZ;cases hm:rz ks cs with
     | none=>rw[hm]at h;cases h
     | some Ss=>
      rw[hm]at h;cases h;obtain⟨a,b⟩:=FO (xs:=xs) hm (by simpa using hl) (λi h h'=>hv (i+1) (by simp;omega) (by simp;omega));have h0:=hv 0 Qy Qy;simp only[List.getElem_cons_zero]at h0;cases h0;exact⟨by simp[a],by simp[b]⟩
    ·cases h
   | _=>simp[rz]at h
 | [],_::_,_,_,h,_,_=>by simp[rz]at h
 | _::_,[],_,_,h,_,_=>by simp[rz]at h
theorem rX{G:Qh}{sh:Sh}(h:kp sh a=some ns)(hv:VR G a v):gA sh ns=some v:=by
 cases hv with
 | int k n=>
  cases sh with
  | one k'=>
   simp only[kp]at h;split at h;·rename_i hk;subst hk;cases h;rfl
   ·cases h
  | many ks=>simp[kp]at h
 | agg cs xs hs hc=>
  cases sh with
  | one k'=>simp[kp]at h
  | many ks=>
   simp only[kp]at h;obtain⟨a,b⟩:=FO (xs:=xs.toList) h (by simpa using hs) (λi h1 h2=>by simpa using hc i h1 (by simpa using h2));unfold gA;simp only;rw[if_pos a,<-b]
 | _=>cases sh<;>simp[kp]at h
end
variable{q u:Value}{b:Bool}{vlo vhi:Option Value}{lo:Option AV}
section
variable{P:Program}{G:Qh}{S:St}{w:World}
theorem MM{m n:Int}(W0:op≠.shl/\op≠.shr)(h:vQ op k m n K) :∃v av,(binOp op T (.int k m) (.int k n)).run P w = .ok v w/\K av/\VR G av v:=by
 cases op<;>simp only[vQ]at h<;>first
  | exact h.elim
  | (refine⟨_,_,?_,h,.int _ _⟩;simp[binOp,Op.intArith];done)
  | (refine⟨_,_,?_,h.2,.int _ _⟩;simp[binOp,Op.intDiv,h.1])
  | (refine⟨_,_,?_,h,.int _ _⟩;simp[binOp,intBits_and,intBits_or,intBits_xor,intBits_andNot];done)
  | (refine⟨_,_,?_,h,.bool _⟩;simp[binOp,Op.intCmp])
  | exact absurd rfl W0.1
  | exact absurd rfl W0.2
theorem Fl{k':IntKind}{m n:Int}(h:sU op k m n K) :∃v av,(binOp op T (.int k m) (.int k' n)).run P w = .ok v w/\K av/\VR G av v:=by
 cases op<;>simp only[sU]at h<;>try exact h.elim
 ·obtain⟨h0,h1,h⟩:=h;refine⟨_,_,?_,h,.int _ _⟩;have:min n.toNat k.bits=n.toNat:=om;have hn:¬n<0:=om;simp[binOp,Op.shift,hn,this]
 ·obtain⟨h0,h1,h⟩:=h;refine⟨_,_,?_,h,.int _ _⟩;have:min n.toNat k.bits=n.toNat:=om;have hn:¬n<0:=om;have hp:(0:Int)<=2^n.toNat:=Int.le_of_lt (Int.pow_pos (by decide));simp[binOp,Op.shift,hn,this,Int.fdiv_eq_ediv_of_nonneg _ hp]
theorem zO{p q:Bool}(hu:P.underlying T=some .bool)(d:Nat):(Op.equalIn (d+1) T (.bool p) (.bool q)).run P w = .ok (p==q) w:=by simp only[Op.equalIn,Sem.run_bind,run_underlying hu,Result.andThen_ok,Sem.run_pure]
theorem v_{p q:Bool}(hu:P.underlying T=some .bool):(Op.equal T (.bool p) (.bool q)).run P w = .ok (p==q) w:=by unfold Op.equal Op.maxDepth;exact zO hu 9999
theorem zN{ms}(hu:P.underlying T=some (.interface ms))(d:Nat):(Op.equalIn (d+1) T .nilIface .nilIface).run P w = .ok true w:=by simp only[Op.equalIn,Sem.run_bind,run_underlying hu,Result.andThen_ok,Sem.run_pure]
theorem vY{ms}(hu:P.underlying T=some (.interface ms)):(Op.equal T .nilIface .nilIface).run P w = .ok true w:=by unfold Op.equal Op.maxDepth;exact zN hu 9999
theorem zM{t:TypeId}{ms}(hu:P.underlying T=some (.interface ms))(d:Nat):(Op.equalIn (d+1) T .nilIface (.iface t q)).run P w = .ok false w:=by simp only[Op.equalIn,Sem.run_bind,run_underlying hu,Result.andThen_ok,Sem.run_pure]
theorem vW{t:TypeId}{ms}(hu:P.underlying T=some (.interface ms)):(Op.equal T .nilIface (.iface t q)).run P w = .ok false w:=by unfold Op.equal Op.maxDepth;exact zM hu 9999
theorem zL{t:TypeId}{ms}(hu:P.underlying T=some (.interface ms))(d:Nat):(Op.equalIn (d+1) T (.iface t q) .nilIface).run P w = .ok false w:=by simp only[Op.equalIn,Sem.run_bind,run_underlying hu,Result.andThen_ok,Sem.run_pure]
theorem vV{t:TypeId}{ms}(hu:P.underlying T=some (.interface ms)):(Op.equal T (.iface t q) .nilIface).run P w = .ok false w:=by unfold Op.equal Op.maxDepth;exact zL hu 9999
theorem iQ(h:(Op.equal T x y).run P w = .ok b w):((do pure (.bool (←Op.equal T x y))):Sem Value).run P w = .ok (.bool b) w:=by simp[h]
theorem kg(h:(Op.equal T x y).run P w = .ok b w):((do pure (.bool (!(←Op.equal T x y)))):Sem Value).run P w = .ok (.bool (!b)) w:=by simp[h]
theorem Oh{x y:Operand}{b:AV}(hx:VR G a u)(hy:VR G b v)(h:zH P op T x y a b K)(hcx:iU x=true->∃c,x = .const c)(hcy:iU y=true->∃c,y = .const c) :∃r av,(do eqGuard op T x y u v;binOp op T u v:Sem Value).run P w = .ok r w/\K av/\VR G av r:=by
 cases hx with
 | int k m=>
  cases hy with
  | int k' n=>
   have hg:(eqGuard op T x y (.int k m) (.int k' n)).run P w = .ok () w:=by simp[eqGuard_at_int]
   simp only[Sem.run_bind,hg,Result.andThen_ok];by_cases h1:op = .shl;·subst h1;exact Fl h
   by_cases h2:op = .shr;·subst h2;exact Fl h
   have hh:k=k'/\vQ op k m n K:=by cases op<;>first|exact h|exact absurd rfl h1|exact absurd rfl h2
   obtain⟨rfl,hh⟩:=hh;exact MM ⟨h1,h2⟩ hh
  | _=>exact h.elim
 | bool p=>
  cases hy with
  | bool q=>
   obtain⟨ht,h⟩:=h;have hu:=JR ht;have hg:(eqGuard op T x y (.bool p) (.bool q)).run P w = .ok () w:=by simp[eqGuard_at_bool]
   simp only[Sem.run_bind,hg,Result.andThen_ok]
   cases op<;>first
    | exact h.elim
    | exact⟨_,_,iQ (v_ hu),h,.bool _⟩
    | exact⟨_,_,kg (v_ hu),h,.bool _⟩
  | _=>exact h.elim
 | str p=>
  cases hy with
  | str q=>
   obtain⟨ht,h⟩:=h;have hg:(eqGuard op T x y (.string p) (.string q)).run P w = .ok () w:=by simp[eqGuard_at_string]
   simp only[Sem.run_bind,hg,Result.andThen_ok]
   cases op<;>first
    | exact h.elim
    | exact⟨.bool (p.toList==q.toList),_,by simp[binOp,Op.stringOp],h,.bool _⟩
    | exact⟨.bool (p.toList != q.toList),_,by simp[binOp,Op.stringOp,bne],h,.bool _⟩
  | _=>exact h.elim
 | Qg=>
  cases hy with
  | Qg=>
   obtain⟨ht,hc,h⟩:=h;obtain⟨ms,hu⟩:=xD ht;have hg:(eqGuard op T x y .nilIface .nilIface).run P w = .ok () w:=by
    simp only[Bool.or_eq_true]at hc;rcases hc with hc|hc;·obtain⟨c,rfl⟩:=hcx hc;simp[eqGuard_nil_constL]
    ·obtain⟨c,rfl⟩:=hcy hc;simp[eqGuard_nil_constR]
   simp only[Sem.run_bind,hg,Result.andThen_ok]
   cases op<;>first
    | exact h.elim
    | exact⟨_,_,iQ (vY hu),h,.bool _⟩
    | exact⟨_,_,kg (vY hu),h,.bool _⟩
  | iface t z q hz=>
   obtain⟨ht,h⟩:=h;obtain⟨ms,hu⟩:=xD ht;have hg:(eqGuard op T x y .nilIface (.iface t q)).run P w = .ok () w:=by simp[eqGuard_nil_iface]
   simp only[Sem.run_bind,hg,Result.andThen_ok]
   cases op<;>first
    | exact h.elim
    | exact⟨_,_,iQ (vW hu),h,.bool _⟩
    | exact⟨_,_,kg (vW hu),h,.bool _⟩
  | _=>exact h.elim
 | iface t z q hz=>
  cases hy with
  | Qg=>
   obtain⟨ht,h⟩:=h;obtain⟨ms,hu⟩:=xD ht;have hg:(eqGuard op T x y (.iface t q) .nilIface).run P w = .ok () w:=by simp[eqGuard_at_iface]
   simp only[Sem.run_bind,hg,Result.andThen_ok]
   cases op<;>first
    | exact h.elim
    | exact⟨_,_,iQ (vV hu),h,.bool _⟩
    | exact⟨_,_,kg (vV hu),h,.bool _⟩
  | _=>exact h.elim
 | agg cs xs Wj UO=>
  cases hy with
  | agg ds ys TT Sw=>
   simp only[zH]at h;split at h
   ·rename_i ks hk;split at h
    ·rename_i m n hm hn;have k1:=rX (sh:=.many ks) (a:=.agg cs) hm (.agg cs xs Wj UO);have k2:=rX (sh:=.many ks) (a:=.agg ds) hn (.agg ds ys TT Sw);have hq:=Dc hk k1 k2 w;have hg:(eqGuard op T x y (.agg xs) (.agg ys)).run P w = .ok () w:=BV hk k1 k2;simp only[Sem.run_bind,hg,Result.andThen_ok]
     cases op<;>first
      | exact h.elim
      | exact⟨_,_,iQ hq,h,.bool _⟩
      | exact⟨_,_,kg hq,h,.bool _⟩
    ·exact h.elim
   ·exact h.elim
  | _=>exact h.elim
 | _=>exact h.elim
theorem Pr{op:UnOp}(hx:VR G a u)(h:Y1 op a K):∃r av,(Op.unary op u).run P w = .ok r w/\K av/\VR G av r:=by
 cases hx<;>cases op<;>simp only[Y1]at h<;>first
  | exact h.elim
  | (refine⟨_,_,?_,h,.bool _⟩;simp[Op.unary];done)
  | (refine⟨_,_,?_,h,.int _ _⟩;simp[Op.unary,Op.intArith];done)
  | (refine⟨_,_,?_,h,.int _ _⟩;simp[Op.unary,bits,Op.intBits];done)
theorem Ia(RP:0<sz P T)(Si:bF P T=false->sz P T=1)(hl:off+sz P T<=cs.length)(hs:xs.size=cs.length)(hv:∀i (h:i<cs.length) (h':i<xs.size),VR G cs[i] xs[i]) :∃v,(part T xs off).run P w = .ok v w/\VR G (WA P T cs off) v:=by
 cases ha:bF P T with
 | true=>
  refine⟨.agg (xs.extract off (off+sz P T)),?_,?_⟩;·simp only[part,Sem.run_bind,Ap ha,Result.andThen_ok,if_true,ee RP,Sem.run_pure]
  ·simp only[WA,ha,cond_true];refine .agg _ _ (by simp;omega) (λi h h'=>?_);simp only[getElem_take,getElem_drop,Array.getElem_extract];simp only[length_take,length_drop]at h;exact hv _ om om
 | false=>
  obtain⟨_,d,_,hd,_⟩:=Bq RP;have h1:=Si ha;refine⟨xs[off]'om,?_,?_⟩
  ·have hx:xs[off]? = some (xs[off]'om):=by simp
   simp only[part,Sem.run_bind,xM hd ha,Result.andThen_ok,Bool.false_eq_true,if_false,hx,Sem.run_pure]
  ·simp only[WA,ha,cond_false];rw[List.getD_eq_getElem?_getD,List.getElem?_eq_getElem om];exact hv _ _ _
theorem Kj{T:Nat}(hx:VR G a x)(h:qc P T f a K):∃v av,(Instr.field T x f).run P w = .ok v w/\K av/\VR G av v:=by
 unfold qc at h;cases hx with
 | agg cs xs hs hv=>
  simp only at h;split at h;·rename_i fs hd;obtain⟨fields,hu,rfl⟩:=rN hd;obtain⟨⟨hf,RP,Si,hl⟩,hK⟩:=h;obtain⟨fd,hfd,hg⟩:=BS hf;rw[hg]at hK RP Si hl;simp only at hK RP Si hl;obtain⟨v,h1,h2⟩:=Ia (P:=P) (w:=w) RP Si hl hs hv;refine⟨v,_,?_,hK,h2⟩;simp only[Instr.field,Sem.run_bind,run_underlying hu,Result.andThen_ok,hfd,asAgg,Sem.run_pure,h1]
  ·exact h.elim
 | _=>exact h.elim
theorem Ki{T:Nat}(hx:VR G a x)(hy:VR G i y)(h:oZ P T a i K) :∃v av,(Instr.index T x y).run P w = .ok v w/\K av/\VR G av v:=by
 unfold oZ at h;cases hy with
 | int ki n=>
  cases hx with
  | agg cs xs hs hv=>
   simp only at h;split at h;·rename_i len e hd;have hu:=tI hd;obtain⟨⟨h0,h1⟩,⟨RP,Si,hl⟩,hK⟩:=h;obtain⟨v,q1,q2⟩:=Ia (P:=P) (w:=w) RP Si hl hs hv;refine⟨v,_,?_,hK,q2⟩;simp[Instr.index,asIntOf,run_underlying hu,h0,h1,ee RP,q1]
   ·exact h.elim
  | str s=>
   simp only at h;split at h
   ·rename_i hd;have hu:P.underlying T=some .string:=by unfold td at hd;split at hd<;>first|assumption|cases hd
    obtain⟨⟨h0,h1⟩,hK⟩:=h;have QH:n.toNat<s.size:=om;refine⟨_,_,?_,hK,.int _ _⟩;simp[Instr.index,asIntOf,run_underlying hu,h0,QH,pq]
   ·exact h.elim
  | _=>exact h.elim
 | _=>exact h.elim
theorem xq{d:Nat}{n:Int}(hv:∀a,lo=some a->∃x,vlo=some x/\VR G a x)(hn:lo=none->vlo=none)(h:V2 lo d=some n) :(lo=none/\vlo=none/\n=d)\/∃k,vlo=some (.int k n):=by
 unfold V2 at h;split at h;·exact .inl ⟨rfl,hn rfl,by injection h with h;exact h.symm⟩
 ·obtain⟨x,hx,hr⟩:=hv _ rfl;cases hr;injection h with h;subst h;exact .inr ⟨_,hx⟩
 ·cases h
theorem xP{len cap:Nat}{l h:Int}(Sr:(vlo=none/\l=0)\/∃k,vlo=some (.int k l))(Sx:(vhi=none/\h=len)\/∃k,vhi=some (.int k h))(h0:0<=l)(h1:l<=h)(h2:h<=len)(hc:len<=cap):(Instr.sliceBounds true len cap vlo vhi none).run P w = .ok (l.toNat,h.toNat,cap) w:=by
 have hh:(match vhi with|some v=>Instr.sliceBound v cap .sliceAcap|none=>(pure len:Sem Nat)).run P w = .ok h.toNat w:=by
  rcases Sx with⟨rfl,rfl⟩|⟨k,rfl⟩;·simp
  ·have e1:0<=h/\h<=(cap:Int):=om;simp only[Instr.sliceBound,asIntOf,Sem.run_bind,Sem.run_pure,Result.andThen_ok,if_pos e1]
 have hl:(match vlo with|some v=>Instr.sliceBound v h.toNat .sliceB|none=>(pure 0:Sem Nat)).run P w = .ok l.toNat w:=by
  rcases Sr with⟨rfl,rfl⟩|⟨k,rfl⟩;·simp
  ·have e1:0<=l/\l<=((h.toNat:Nat):Int):=om;simp only[Instr.sliceBound,asIntOf,Sem.run_bind,Sem.run_pure,Result.andThen_ok,if_pos e1]
 rcases vhi with _|vh<;>rcases vlo with _|vl<;>simp only at hh hl<;>simp[Instr.sliceBounds,hh,hl]<;>simp_all
theorem Kh{hi mx:Option AV}{vmx:Option Value}(hx:VR G a x)(Zc:∀a,lo=some a->∃x,vlo=some x/\VR G a x)(adK:lo=none->vlo=none)(adb:∀a,hi=some a->∃x,vhi=some x/\VR G a x)(adL:hi=none->vhi=none)(hmx:mx=none->vmx=none)(h:lk P T a lo hi mx K):∃v av,(Instr.sliceAt T x vlo vhi vmx).run P w = .ok v w/\K av/\VR G av v:=by
 unfold lk at h;split at h
 ·rename_i e hd;have hu:=iw hd;rw[hmx rfl]
  have key:∀(ao:Option Addr) (len cap:Nat) (l h:Int),(Instr.sliceBounds true len cap vlo vhi none).run P w = .ok (l.toNat,h.toNat,cap) w->0<sz P e->
    (Instr.sliceAt T (.slice ao len cap) vlo vhi none).run P w = .ok (.slice (if cap=l.toNat then ao else ao.map (·.add (l.toNat*sz P e))) (h.toNat-l.toNat) (cap-l.toNat)) w:=by
   intro ao len cap l h hb hs;simp[Instr.sliceAt,Instr.slice,run_underlying hu,hb,ee hs]
  cases hx with
  | sl kk r k g off len a L hL hk hc hm ha=>
   simp only at h;split at h
   ·rename_i l hh Zk hbh;obtain⟨⟨h0,h1,h2⟩,⟨Xm,SZ⟩,hK⟩:=h;have e1:=xq (G:=G) Zc adK Zk;have e2:=xq (G:=G) adb adL hbh
    have hb:=xP (P:=P) (w:=w) (vlo:=vlo) (vhi:=vhi) (len:=len) (cap:=L.cap-off) (l:=l) (h:=hh)
     (e1.imp (λq=>⟨q.2.1,q.2.2⟩) id) (e2.imp (λq=>⟨q.2.1,q.2.2⟩) id) h0 h1 h2 om
    refine⟨_,_,key a len (L.cap-off) l hh hb om,hK,?_⟩;have Sp:L.cap-off-l.toNat=L.cap-(off+l.toNat):=om;rw[Sp];refine .sl _ _ _ _ _ _ _ L hL hk om hm (λQH=>?_)
    rw[if_neg om,ha om];simp only[map_some,iL,<-SZ,hk,add_mul]
   ·exact h.elim
  | list es a len cap c x k u hn Sp hm ha hk hi hv=>
   simp only at h;split at h
   ·rename_i l hh Zk hbh;obtain⟨⟨h0,h1,h2⟩,⟨hs0,Sj⟩,hK⟩:=h;have e1:=xq (G:=G) Zc adK Zk;have e2:=xq (G:=G) adb adL hbh
    have hb:=xP (P:=P) (w:=w) (vlo:=vlo) (vhi:=vhi) (len:=len) (cap:=cap) (l:=l) (h:=hh)
     (e1.imp (λq=>⟨q.2.1,q.2.2⟩) id) (e2.imp (λq=>⟨q.2.1,by rw[hn];exact q.2.2⟩) id) h0 h1 om om
    refine⟨_,_,key a len cap l hh hb hs0,hK,?_⟩;have hlen:((es.drop l.toNat).take (hh.toNat-l.toNat)).length=hh.toNat-l.toNat:=by simp;omega
    have SZ:∀i (h:i<es.length),k=sz P e:=λi h=>by have h1:=hk i h;have h2:=List.all_eq_true.1 Sj es[i] (getElem_mem h);simp at h2;omega
    refine .list _ _ _ _ c (x+l.toNat*k) k (λi j=>u (l.toNat+i) j) hlen.symm om om (λhp=>?_) (λi Q9=>?_) (λi j Q9 hj=>?_) (λi Q9 j hj=>?_);·rw[if_neg om,ha om];simp only[map_some,iL];rw[SZ 0 om]
    ·simp only[getElem_take,getElem_drop];exact hk _ _
    ·have:=hi (l.toNat+i) j om hj;rw[add_mul,add_assoc,<-add_assoc]at this;exact this
    ·simp only[getElem_take,getElem_drop]at hj ⊢;exact hv _ _ j hj
   ·exact h.elim
  | _=>exact h.elim
 ·exact h.elim
end
variable{o:Oper}{ok:Bool}
section
variable{P:Program}{G:Qh}{S:St}{w:World}{ty:TypeId}
theorem vT:∀(fs:List Field),(∀f∈fs,0<sz P f.type)->(fs.mapM λf=>Functor.map (Prod.mk f.offset) (sizeOf f.type)).run P w = .ok (fs.map λf=>(f.offset,sz P f.type)) w
 | [],_=>by simp
 | f::rest,h=>by have h1:=ee (P:=P) (w:=w) (h f Qy);simp[List.mapM_cons,h1,vT rest (λg hg=>h g (by simp[hg]))]
theorem vB(off:Nat):∀(xs:List Value) (b:Nat) (cs:Array Value),((xs.zipIdx b).foldl (λcs (p:Value×Nat)=>cs.setIfInBounds (off+p.2) p.1) cs).size=cs.size/\
  ∀n,n<cs.size->((xs.zipIdx b).foldl (λcs (p:Value×Nat)=>cs.setIfInBounds (off+p.2) p.1) cs)[n]? =
   if h:off+b<=n/\n<off+b+xs.length then some (xs[n-(off+b)]'om)else cs[n]?
 | [],b,cs=>⟨by simp,λn _=>by rw[dif_neg (λhc=>by have:=hc.1;have:=hc.2;simp only[List.length_nil]at *;omega)];rfl⟩
 | x::xs,b,cs=>by
  obtain⟨h1,h2⟩:=vB off xs (b+1) (cs.setIfInBounds (off+b) x);simp only[List.zipIdx_cons,List.foldl_cons];refine⟨by rw[h1];simp,λn hn=>?_⟩;rw[h2 n (by simpa using hn)];by_cases hc:off+b=n;·subst hc;rw[dif_neg om,dif_pos Qy];simp[hn]
  ·by_cases hd:off+(b+1)<=n/\n<off+(b+1)+xs.length;·rw[dif_pos hd,dif_pos (by simp;omega)];obtain⟨d,hd'⟩:∃d,n-(off+b)=d+1:=⟨n-(off+b)-1,om⟩;have:n-(off+(b+1))=d:=om;simp only[hd',this,List.getElem_cons_succ]
   ·rw[dif_neg hd,dif_neg (by simp;omega),Array.getElem?_setIfInBounds_ne hc]
theorem VR.aaw(h:VR G (.agg cs) (.agg xs))(ha:VR G a v)(hs:a.Q_=true)(hl:off+a.cells.length<=cs.length) :VR G (TN (.agg cs) off a) (.agg (v.cells.zipIdx.foldl (λcs (p:Value×Nat)=>cs.setIfInBounds (off+p.2) p.1) xs)):=by
 cases h with
 | agg _ _ RP hv=>
 obtain⟨c1,c2⟩:=ha.cells hs;have hf:=vB off v.cells.toList 0 xs;have he:(v.cells.zipIdx.foldl (λcs (p:Value×Nat)=>cs.setIfInBounds (off+p.2) p.1) xs)=(v.cells.toList.zipIdx 0).foldl (λcs (p:Value×Nat)=>cs.setIfInBounds (off+p.2) p.1) xs:=by rw[<-Array.foldl_toList,Array.toList_zipIdx]
 rw[he];have Vi:v.cells.toList.length=a.cells.length:=by simpa using c1
 simp only[TN];refine .agg _ _ (by rw[hf.1,RP];simp;omega) (λi h1 h2=>?_);have hi:i<xs.size:=by rw[hf.1]at h2;exact h2
 have hg:=hf.2 i hi;rw[Array.getElem?_eq_getElem h2]at hg;split at hg
 ·rename_i hc;simp only[add_zero]at hc;have:((v.cells.toList.zipIdx 0).foldl (λcs (p:Value×Nat)=>cs.setIfInBounds (off+p.2) p.1) xs)[i]=v.cells.toList[i-(off+0)]'om:=Option.some.inj hg;rw[this];simp only[add_zero,Array.getElem_toList];have e1:(List.take off cs++a.cells++List.drop (off+a.cells.length) cs)[i]=a.cells[i-off]'om:=by rw[List.getElem_append_left (by simp;omega),List.getElem_append_right (by simp;omega)];congr 1;simp;omega
  rw[e1];exact c2 _ _ _
 ·rename_i hc;simp only[add_zero]at hc;rw[Array.getElem?_eq_getElem hi]at hg;rw[Option.some.inj hg];have e1:(List.take off cs++a.cells++List.drop (off+a.cells.length) cs)[i]=cs[i]'om:=by
   by_cases QH:i<off;·rw[List.getElem_append_left (by simp;omega),List.getElem_append_left (by simp;omega),getElem_take]
   ·rw[List.getElem_append_right (by simp;omega),getElem_drop];congr 1;simp;omega
  rw[e1];exact hv _ _ _
theorem El(hl:off+a.cells.length<=cs.length):∃WI,TN (.agg cs) off a = .agg WI/\WI.length=cs.length:=⟨_,rfl,by simp;omega⟩
theorem tf(place:Nat->Option (Nat×Nat))(off:Nat->Nat)(n:Nat):∀(parts:List (Nat×AV)) (vs:List (Nat×Value)) (cs:List AV) (xs:Array Value),vs.length=parts.length->(∀j (h:j<parts.length) (h':j<vs.length),vs[j].1=parts[j].1/\VR G parts[j].2 vs[j].2)->(∀p∈parts,p.2.Q_=true/\place p.1=some (off p.1,p.2.cells.length)/\off p.1+p.2.cells.length<=n)->cs.length=n->VR G (.agg cs) (.agg xs)->∃ys,Instr.fill place xs vs=some ys/\VR G (parts.foldl (λv p=>TN v (off p.1) p.2) (.agg cs)) (.agg ys)
 | [],[],cs,xs,_,_,_,_,h=>⟨xs,rfl,h⟩
 | (i,a)::parts,(i',v)::vs,cs,xs,hlen,hr,hp,hn,h=>by
  have h0:=hr 0 Qy Qy;simp only[List.getElem_cons_zero]at h0;obtain⟨hii,hv⟩:=h0;subst hii;obtain⟨hs,U7,hl⟩:=hp (i',a) Qy;simp only at hs U7 hl;obtain⟨c1,_⟩:=VR.cells hv hs;have hx:xs.size=cs.length:=by cases h;assumption
  obtain⟨WI,e1,e2⟩:=El (cs:=cs) (a:=a) (off:=off i') om;have UD:=VR.aaw h hv hs (off:=off i') om;rw[e1]at UD
  obtain⟨ys,q1,q2⟩:=tf place off n parts vs WI _ (by simpa using hlen) (λj h1 h2=>hr (j+1) (by simpa using h1) (by simpa using h2))
   (λp YE=>hp p (by simp[YE])) om UD
  refine⟨ys,?_,?_⟩;·simp only[Instr.fill,U7];rw[if_neg (by simp;omega)];exact q1
  ·simp only[List.foldl_cons,e1];exact q2
theorem iN(h:di P T=true):∃i z,P.info? T=some i/\i.zero=some z/\z.cells.size=i.size/\sS P T=z/\0<i.size/\(ofConst z).Q_=true:=by
 unfold di at h;cases hi:P.info? T with
 | none=>simp[hi]at h
 | some i=>
  cases hz:i.zero with
  | none=>simp[hi,hz]at h
  | some z=>
   simp only[hi,hz,and_eq_true,beq_iff_eq,decide_eq_true_eq]at h;exact⟨i,z,rfl,hz,h.1.1.1,by simp[sS,hi,hz],h.2,h.1.2⟩
theorem mo(h:di P T=true):(zeroValue T).run P w = .ok (sS P T) w/\VR G (QM P T) (sS P T):=by obtain⟨i,z,hi,hz,_,hv,_⟩:=iN h;exact⟨by simp[zeroValue,typeInfo,hi,hz,hv],VR.ofConst G _⟩
theorem Kk{parts:List (Nat×AV)}{vs:List (Nat×Value)}(hlen:vs.length=parts.length)(hr:∀j (h:j<parts.length) (h':j<vs.length),vs[j].1=parts[j].1/\VR G parts[j].2 vs[j].2)(h:nM P T parts K) :∃v av,(Instr.build T vs.toArray).run P w = .ok v w/\K av/\VR G av v:=by
 unfold nM at h;split at h
 ·rename_i fs hd;obtain⟨fields,hu,rfl⟩:=rN hd;obtain⟨h1,h2,hK⟩:=h;simp only[and_eq_true,List.all_map,all_eq_true,Function.comp,decide_eq_true_eq]at h1;obtain⟨⟨Tf,hag⟩,hfs⟩:=h1;obtain⟨i,z,hi,hz,hzs,Xh,hz0,U5⟩:=iN Tf;have RP:sz P T=i.size:=by simp[sz,hi,hu]
  obtain⟨hzr,WV⟩:=mo (P:=P) (G:=G) (w:=w) Tf;have U7:=vT (P:=P) (w:=w) fields.toList (λf hf=>hfs f hf);have ag0:(fields.mapM λf=>do pure (f.offset,<-sizeOf f.type):Sem (Array (Nat×Nat))).run P w = .ok (fields.map λf=>(f.offset,sz P f.type)) w:=by simp[Array.mapM_eq_mapM_toList,U7];apply ext';simp
  obtain⟨cs,hcs⟩:∃cs,QM P T = .agg cs:=by
   cases Y_:QM P T with
   | agg cs=>exact⟨cs,rfl⟩
   | _=>simp[fR,Y_]at hag
  rw[hcs]at WV hK;obtain⟨xs,WW⟩:∃xs,sS P T = .agg xs:=by generalize sS P T=zz at WV;cases WV;exact⟨_,rfl⟩
  rw[WW]at WV;have hn:cs.length=sz P T:=by
   cases WV with
   | agg _ _ hq _=>rw[RP,<-hzs,<-Xh,WW];simp[Value.cells,hq]
  obtain⟨ys,y1,y2⟩:=tf (G:=G) ((fields.map λf=>(f.offset,sz P f.type))[·]?) (λi=>((fields.toList.map λf=>(f.offset,f.type)).getD i (0,0)).1) (sz P T) parts vs cs xs hlen hr
   (λp hp=>by
    have:=List.all_eq_true.1 h2 p hp;simp only[and_eq_true,beq_iff_eq,decide_eq_true_eq]at this;obtain⟨⟨⟨a1,a2⟩,a3⟩,a4⟩:=this;obtain⟨fd,f1,f2⟩:=BS a3;refine⟨a1,?_,a4⟩;rw[f2]at a2 ⊢;simp[f1,a2]) hn WV
  refine⟨.agg ys,_,?_,hK,y2⟩;simp only[Instr.build,Sem.run_bind,hzr,Result.andThen_ok,run_underlying hu,ag0,WW,Value.cells];simp only[Array.getElem?_map]at y1;simp[y1]
 ·rename_i len e hd;have hu:=tI hd;obtain⟨h1,h2,hK⟩:=h;simp only[and_eq_true,decide_eq_true_eq]at h1;obtain⟨⟨Tf,hag⟩,hse⟩:=h1;obtain⟨i,z,hi,hz,hzs,Xh,hz0,U5⟩:=iN Tf;have RP:sz P T=i.size:=by simp[sz,hi,hu]
  obtain⟨hzr,WV⟩:=mo (P:=P) (G:=G) (w:=w) Tf;obtain⟨cs,hcs⟩:∃cs,QM P T = .agg cs:=by
   cases Y_:QM P T with
   | agg cs=>exact⟨cs,rfl⟩
   | _=>simp[fR,Y_]at hag
  rw[hcs]at WV hK;obtain⟨xs,WW⟩:∃xs,sS P T = .agg xs:=by generalize sS P T=zz at WV;cases WV;exact⟨_,rfl⟩
  rw[WW]at WV;have hn:cs.length=sz P T:=by
   cases WV with
   | agg _ _ hq _=>rw[RP,<-hzs,<-Xh,WW];simp[Value.cells,hq]
  obtain⟨ys,y1,y2⟩:=tf (G:=G) (λi=>some (i*sz P e,sz P e)) (λi=>i*sz P e) (sz P T) parts vs cs xs hlen hr
   (λp hp=>by
    have:=List.all_eq_true.1 h2 p hp;simp only[and_eq_true,beq_iff_eq,decide_eq_true_eq]at this;obtain⟨⟨a1,a2⟩,a4⟩:=this;exact⟨a1,by rw[a2],a4⟩) hn WV
  refine⟨.agg ys,_,?_,hK,y2⟩;simp only[Instr.build,Sem.run_bind,hzr,Result.andThen_ok,run_underlying hu,ee hse,WW,Value.cells];simp[y1]
 ·exact h.elim
theorem Og(hx:VR G a x)(h:uM P T a K) :∃v av,(Builtin.len_ #[T] ty #[x]).run P w = .ok v w/\K av/\VR G av v:=by
 unfold uM at h;split at h
 ·rename_i e hd;have hu:=iw hd;cases hx with
  | sl kk r k g off len a L hL hk hc hm ha=>exact⟨_,_,by simp[Builtin.len_,run_underlying hu];rfl,h,.int _ _⟩
  | list es a n cap c x k u hn Sp hm ha hk hi hv=>subst hn;exact⟨_,_,by simp[Builtin.len_,run_underlying hu];rfl,h,.int _ _⟩
  | nil=>exact⟨_,_,by simp[Builtin.len_,run_underlying hu];rfl,h,.int _ _⟩
  | _=>exact h.elim
 ·exact h.elim
theorem ML(hr:Rel G S w)(hx:VR G a x)(h:jL P T a S K) :∃v av,(Builtin.len_ #[T] ty #[x]).run P w = .ok v w/\K av/\VR G av v:=by
 by_cases hm:∃r k g,a = .map r k g
 ·obtain⟨r,k,g,rfl⟩:=hm;cases hx with
  | map _ _ _ L hL=>
  simp only[jL]at h;split at h
  ·rename_i sh n f g' hS;split at h
   ·rename_i kt et hd;obtain⟨rfl,hK⟩:=h;obtain⟨L',R5,Q',_⟩:=hr.obj _ _ _ _ hS;obtain rfl:L'=L:=by rw[hL]at R5;exact(Option.some.inj R5).symm
    obtain⟨_,R1,clock,h1,h2,_⟩:=Q';refine⟨_,_,?_,hK,.int _ _⟩;simp[Builtin.len_,run_underlying (Bm hd),MapKept.run_getObj_map h1,Result.andThen,h2,goInt]
   ·exact h.elim
  ·exact h.elim
 ·have:jL P T a S K=uM P T a K:=by cases a<;>first|rfl|exact absurd ⟨_,_,_,rfl⟩ hm
  rw[this]at h;exact Og hx h
theorem VR.pair{b:AV}(h1:VR G a x)(h2:VR G b y):VR G (.tuple [a,b]) (.tuple #[x,y]):=.tuple _ _ rfl (λi hi _=>by
  match i with
  | 0=>exact h1
  | 1=>exact h2)
theorem Ib(hr:Rel G S w)(hx:VR G a x)(hi:VR G i y)(h:iM P T ok a i S K) :∃v av,(Instr.lookup T x y ok).run P w = .ok v w/\K av/\VR G av v:=by
 unfold iM at h;cases hx with
 | map r k g L hL=>
  simp only at h;split at h
  ·rename_i sh n f g' hS;split at h
   ·rename_i kt et ns hd hm;obtain⟨⟨rfl,hk,Tf⟩,hK⟩:=h;obtain⟨L',R5,Q',_⟩:=hr.obj _ _ _ _ hS;obtain rfl:L'=L:=by rw[hL]at R5;exact(Option.some.inj R5).symm
    obtain⟨_,R1,clock,h1,_,h3,h4,_⟩:=Q';have Su:=rX hm hi;have hu:=Bm hd;rcases Db hk Su w R1.toList (λe he=>let ⟨ns,_,a,_,_⟩:=h3 e he;⟨ns,a⟩)with⟨f1,f2⟩|⟨j,e,f1,f2,f3⟩
    ·have hn:f ns=none:=by
      cases hf:f ns with
      | none=>rfl
      | some z=>
       obtain⟨e,he,hke⟩:=h4 ns z hf;exact absurd (Option.some.inj (hke.symm.trans Su)) (f2 e he)
     rw[hn]at hK;have hz:=mo (P:=P) (G:=G) (w:=w) Tf;cases ok with
     | true=>exact⟨.tuple #[sS P et,.bool false],_,by simp[Instr.lookup,run_underlying hu,MapKept.run_getObj_map h1,nH hk Su,f1,hz.1,Result.andThen],hK,hz.2.pair (.bool _)⟩
     | false=>exact⟨sS P et,_,by simp[Instr.lookup,run_underlying hu,MapKept.run_getObj_map h1,nH hk Su,f1,hz.1,Result.andThen],hK,hz.2⟩
    ·obtain⟨Ss,z,a1,a2,a3⟩:=h3 e (List.mem_of_getElem? f2);obtain rfl:Ss=ns:=rW a1 (by rw[f3];exact Su);rw[a2]at hK;cases ok with
     | true=>exact⟨.tuple #[e.val,.bool true],_,by simp[Instr.lookup,run_underlying hu,MapKept.run_getObj_map h1,nH hk Su,f1,Result.andThen],hK,a3.pair (.bool _)⟩
     | false=>exact⟨e.val,_,by simp[Instr.lookup,run_underlying hu,MapKept.run_getObj_map h1,nH hk Su,f1,Result.andThen],hK,a3⟩
   ·exact h.elim
  ·exact h.elim
 | _=>exact h.elim
theorem Ie{xT:TypeId}(hx:VR G a x)(h:oN P T ok a K) :∃v av,(Instr.typeAssert x xT T ok).run P w = .ok v w/\K av/\VR G av v:=by
 obtain⟨hc,h⟩:=h;obtain⟨d,hd,QI⟩:=vR hc;have X6:∀(b c:AV) (x y:Value),VR G b x->VR G c y->VR G (.tuple [b,c]) (.tuple #[x,y]):=λb c x y h1 h2=>.tuple _ _ rfl (λi hi _=>by
   match i with
   | 0=>exact h1
   | 1=>exact h2)
 have hz:di P T=true->ok=true->∀static Zr missing,(do
   if ok then pure (.tuple #[<-zeroValue T,.bool false])else runtimePanic (.typeAssertion static Zr T missing):Sem Value).run P w = .ok (.tuple #[sS P T,.bool false]) w:=by
  intro Tf QT st dy mi;simp[QT,(mo (P:=P) (G:=G) (w:=w) Tf).1]
 cases hx with
 | iface t v y hv=>
  obtain⟨h1,h2⟩:=h;by_cases ht:t=T
  ·subst ht;have h3:=h1 rfl;cases ok with
   | true=>
    refine⟨.tuple #[y,.bool true],_,?_,h3,X6 _ _ _ _ hv (.bool _)⟩;simp only[Instr.typeAssert,Sem.run_bind,run_underlying hd,Result.andThen_ok];cases d<;>first|exact absurd rfl (QI _)|simp
   | false=>
    refine⟨y,_,?_,h3,hv⟩;simp only[Instr.typeAssert,Sem.run_bind,run_underlying hd,Result.andThen_ok];cases d<;>first|exact absurd rfl (QI _)|simp
  ·obtain⟨h3,h4,h5⟩:=h2 ht;refine⟨.tuple #[sS P T,.bool false],_,?_,h5,X6 _ _ _ _ (mo (w:=w) h4).2 (.bool _)⟩;simp only[Instr.typeAssert,Sem.run_bind,run_underlying hd,Result.andThen_ok];have:=hz h4 h3;cases d<;>first|exact absurd rfl (QI _)|(simp only[if_neg ht];exact hz h4 h3 _ _ _)
 | Qg=>
  obtain⟨h3,h4,h5⟩:=h;refine⟨.tuple #[sS P T,.bool false],_,?_,h5,X6 _ _ _ _ (mo (w:=w) h4).2 (.bool _)⟩;simp only[Instr.typeAssert,Sem.run_bind,run_underlying hd,Result.andThen_ok];cases d<;>first|exact absurd rfl (QI _)|exact hz h4 h3 _ _ _
 | _=>exact h.elim
theorem Hq{e:Operand->AV}(h:vq P o.op e S K):QOp P o e S K:=by
 intro G ρ w hr he;obtain⟨dst,op,ty,pos,after,guard⟩:=o;simp only at h;have lift:∀(s:Sem Value),(∃v av,s.run P w = .ok v w/\K av/\VR G av v)->∃v av,((do pure (.value (←s))):Sem Next).run P w = .ok (.value v) w/\K av/\VR G av v:=by rintro s ⟨v,av,h1,h2,h3⟩;exact⟨v,av,by simp[h1],h2,h3⟩
 cases op with
 | move x=>exact⟨ρ x,_,by simp[execOp],h,he x⟩
 | assign x=>exact⟨ρ x,_,by simp[execOp],h,he x⟩
 | pick c a b=>
  simp only[vq]at h;split at h
  ·rename_i v hc;have hcc:=he c;rw[hc]at hcc;generalize Up:ρ c=cv at hcc;cases hcc;refine⟨if v then ρ a else ρ b,_,by simp[execOp,Up,asBool],h,?_⟩;cases v;·exact he b
   ·exact he a
  ·exact h.elim
 | binOp bop T x y yT=>
  exact lift _ (Oh (he x) (he y) h (λhx=>by cases x<;>first|exact⟨_,rfl⟩|cases hx) (λhy=>by cases y<;>first|exact⟨_,rfl⟩|cases hy))
 | unOp u T x=>exact lift _ (Pr (he x) h)
 | convert src aof x=>
  simp only[vq]at h;split at h;·rename_i k n k' k'' hx hd hs;have Za:=he x;rw[hx]at Za;generalize Up:ρ x=cv at Za;cases Za;refine lift _ ⟨_,_,?_,h,.int _ _⟩;simp[Up,convert,run_underlying (HC hs),run_underlying (HC hd),Conv.intToInt]
  ·exact h.elim
 | makeInterface T x=>
  obtain⟨hc,h⟩:=h;obtain⟨d,hd,QI⟩:=vR hc;refine lift _ ⟨_,_,?_,h,.iface _ _ _ (he x)⟩;simp only[Instr.makeInterface,Sem.run_bind,run_underlying hd,Result.andThen_ok];cases d<;>first|exact absurd rfl (QI _)|rfl
 | makeFunc fn first QG=>
  refine lift _ ⟨.func fn (first.map ρ) (QG.map ρ),_,by simp[Instr.makeFunc],h,.fn _ _ _ _ _ Qy Qy (λi h1 h2=>?_) (λi h1 h2=>?_)⟩;·simpa using he _
  ·simpa using he _
 | build T parts=>
  simp only[vq]at h
  have:=Kk (P:=P) (G:=G) (w:=w) (T:=T) (parts:=parts.toList.map λp=>(p.1,e p.2)) (vs:=parts.toList.map λp=>(p.1,ρ p.2)) Qy
   (λj h1 h2=>by simpa using he _) h
  have hq:(parts.toList.map λp=>(p.1,ρ p.2)).toArray=parts.map λp=>(p.1,ρ p.2):=by apply ext';simp
  rw[hq]at this;exact lift _ this
 | load T a=>exact lift _ (Ic hr (he a) h)
 | nilCheck x=>
  obtain⟨hc,h⟩:=h;have hx:=he x;generalize Up:ρ x=cv at hx;refine⟨cv,_,?_,h,hx⟩
  cases WX:e x<;>rw[WX]at hc hx<;>first
   | exact hc.elim
   | (cases hx;simp[execOp,Up];done)
   | skip
  rename_i f first QG
  cases f<;>first|exact hc.elim|(cases hx;simp[execOp,Up])
 | fieldAddr T x f=>exact lift _ (CP (he x) h)
 | field T x f=>exact lift _ (Kj (he x) h)
 | indexAddr T x i=>exact lift _ (Gq (he x) (he i) h)
 | index T x i=>exact lift _ (Ki (he x) (he i) h)
 | slice T x lo hi mx=>
  refine lift _ (Kh (he x) (lo:=lo.map e) (hi:=hi.map e) (mx:=mx.map e) (λa ha=>?_) (λhn=>?_) (λa ha=>?_) (λhn=>?_) (λhn=>?_) h)
  ·cases lo with
   | none=>simp at ha
   | some z=>simp at ha;subst ha;exact⟨_,rfl,he z⟩
  ·cases lo with
   | none=>rfl
   | some z=>simp at hn
  ·cases hi with
   | none=>simp at ha
   | some z=>simp at ha;subst ha;exact⟨_,rfl,he z⟩
  ·cases hi with
   | none=>rfl
   | some z=>simp at hn
  ·cases mx with
   | none=>rfl
   | some z=>simp at hn
 | extract x i=>
  simp only[vq]at h;split at h
  ·rename_i vs hx;have Za:=he x;rw[hx]at Za;generalize Up:ρ x=cv at Za;cases Za with
   | tuple _ xs hs hv=>
   obtain⟨hi,h⟩:=h;have Q9:i<xs.size:=om;refine lift _ ⟨xs[i],_,?_,h,?_⟩;·simp[Instr.extract,Q9,Up]
   ·rw[List.getD_eq_getElem?_getD,List.getElem?_eq_getElem hi];exact hv i hi Q9
  ·exact h.elim
 | typeAssert x xT T ok=>exact lift _ (Ie (he x) h)
 | lookup T x i ok=>exact lift _ (Ib hr (he x) (he i) h)
 | call c=>
  obtain⟨callee,xs,ts⟩:=c;cases callee with
  | value f=>exact h.elim
  | invoke r m=>exact h.elim
  | builtin b=>
   cases b<;>first|exact h.elim|skip
   ·simp only[vq]at h;split at h
    ·rename_i x t hx ht;obtain rfl:xs = #[x]:=by cases xs;simp_all
     obtain rfl:ts = #[t]:=by cases ts;simp_all
     obtain⟨v,av,h1,h2,h3⟩:=ML (P:=P) (w:=w) (ty:=ty) hr (he x) h;exact⟨v,av,by simp[execOp,resolve,invoke,builtin,h1],h2,h3⟩
    ·exact h.elim
   ·simp only[vq]at h;split at h
    ·rename_i x y hx;obtain rfl:xs = #[x,y]:=by cases xs;simp_all
     split at h;·rename_i k m k' n e1 e2;have q1:=he x;have q2:=he y;rw[e1]at q1;rw[e2]at q2;generalize c1:ρ x=v1 at q1;generalize c2:ρ y=v2 at q2;cases q1;cases q2;exact⟨.int k (if m<n then n else m),_,by simp[execOp,resolve,invoke,builtin,c1,c2,Builtin.max_,Builtin.max2],h,.int _ _⟩
     ·exact h.elim
    ·exact h.elim
   ·simp only[vq]at h;split at h
    ·rename_i x y hx;obtain rfl:xs = #[x,y]:=by cases xs;simp_all
     split at h;·rename_i k m k' n e1 e2;have q1:=he x;have q2:=he y;rw[e1]at q1;rw[e2]at q2;generalize c1:ρ x=v1 at q1;generalize c2:ρ y=v2 at q2;cases q1;cases q2;exact⟨.int k (if n<m then n else m),_,by simp[execOp,resolve,invoke,builtin,c1,c2,Builtin.min_,Builtin.min2],h,.int _ _⟩
     ·exact h.elim
    ·rename_i x y z hx;obtain rfl:xs = #[x,y,z]:=by cases xs;simp_all
     split at h;·rename_i k m k' n k2 q e1 e2 e3;have q1:=he x;have q2:=he y;have q3:=he z;rw[e1]at q1;rw[e2]at q2;rw[e3]at q3;generalize c1:ρ x=v1 at q1;generalize c2:ρ y=v2 at q2;generalize c3:ρ z=v3 at q3;cases q1;cases q2;cases q3;exact⟨.int k (if q<(if n<m then n else m)then q else (if n<m then n else m)),_,by simp[execOp,resolve,invoke,builtin,c1,c2,c3,Builtin.min_,Builtin.min2],h,.int _ _⟩
     ·exact h.elim
    ·exact h.elim
 | _=>exact h.elim
end
open Go.RowKit (Below)
def VRs(G:Qh)(as:List AV)(vs:Array Value):Prop:=vs.size=as.length/\∀i (h:i<as.length) (h':i<vs.size),VR G as[i] vs[i]
def Ck(P:Program)(f:FuncId)(as:List AV)(S:St)(R:AV->St->Prop):Prop:=
 ∀(G:Qh) (w:World) (vs:Array Value),Rel G S w->VRs G as vs->
  Calls P f vs w λe w'=>∃v av S' G',e = .returned v/\R av S'/\G.le G'/\Rel G' S' w'/\VR G' av v
theorem Ck.mono{P:Program}{f:FuncId}{as:List AV}{S:St}{R R':AV->St->Prop}(h:Ck P f as S R)(hr:∀v S,R v S->R' v S):Ck P f as S R':=λG w vs h1 h2=>(h G w vs h1 h2).mono λ_ _ ⟨v,av,S',G',e,a,b,c,d⟩=>⟨v,av,S',G',e,hr _ _ a,b,c,d⟩
def Xr(ro:Option Nat):Fence:={ Fence.wide with round:=ro }
variable{P:Program}{w':World}
theorem rV{ρ:Operand->Value}{x:Next}(h:(execOp ρ o).run P w = .ok x w')(hx:∀d,x≠.defer d)(c:Call):o.op≠.defer c:=by
 intro hc;simp only[execOp,hc,Sem.run_bind]at h;cases hr:(resolve ρ c o.type).run P w with
 | ok d w1=>
  rw[hr]at h;simp only[Result.andThen,Sem.run_pure]at h;injection h with h1 h2;exact hx _ h1.symm
 | halt y w1=>rw[hr]at h;cases h
section
variable{P:Program}{ro:Option Nat}{o:Oper}{a:Act}{w w':World}{next:Act->World->Prop}{Q:Exit->Act->World->Prop}
theorem Cp(h:(execOp a.eval o).run P w = .ok (.value v) w')(hk:next (a.put o.dst v) w'):o.wpIn (Xr ro) 0 P a w next Q:=by refine⟨λ_ _=>trivial,?_⟩;rw[Oper.semAt_eq _ _ _ (rV h (λd e=>by cases e)),h];exact hk
theorem JP(h:(execOp a.eval o).run P w = .ok .skip w')(hk:next (a.put o.dst undef) w'):o.wpIn (Xr ro) 0 P a w next Q:=by refine⟨λ_ _=>trivial,?_⟩;rw[Oper.semAt_eq _ _ _ (rV h (λd e=>by cases e)),h];exact hk
theorem Hn{g:FuncId}{args:Array Value}{R:Ending->World->Prop}(h:(execOp a.eval o).run P w = .ok (.enter g args) w')(hc:Calls P g args w' R)(hk:∀e w'',R e w''->∃v,e = .returned v/\next (a.put o.dst v) w''):o.wpIn (Xr ro) 0 P a w next Q:=by refine⟨λ_ _=>trivial,?_⟩;rw[Oper.semAt_eq _ _ _ (rV h (λd e=>by cases e)),h];refine⟨(λhc=>by cases hc),?_⟩;have Sw:CallsIn (Xr ro) (0-1) P g args w' R:=callsIn_wide.2 hc;exact CallsIn.mono Sw (λe w'' he=>by obtain⟨v,rfl,hv⟩:=hk e w'' he;exact hv)
end
def UR(P:Program)(n:Nat)(o:Oper)(t:Env)(S:St)(K:AV->St->Prop):Prop:=
 ∀(ro:Option Nat) (G:Qh) (a:Act) (w:World) (Kc:Act->World->Prop) (Q:Exit->Act->World->Prop),Rel G S w->TR n G t a->
  (∀v av S' G' w',K av S'->G.le G'->Rel G' S' w'->VR G' av v->Kc (a.put o.dst v) w')->o.wpIn (Xr ro) 0 P a w Kc Q
variable{t:Env}{S:St}
theorem QOp.sop{K:AV->St->Prop}(h:QOp P o (ev t) S (λv=>K v S)):UR P n o t S K:=by intro ro G a w Kc Q hr ht hk;obtain⟨v,av,h1,h2,h3⟩:=h G a.eval w hr (λx=>ht.eval x);exact Cp h1 (hk v av S G w h2 (Qh.le.refl G) hr h3)
theorem lm{K:AV->St->Prop}(s:(Operand->Value)->Sem Value)(hs:∀ρ,execOp ρ o=(do pure (.value (←s ρ))))(h:∀(G:Qh) (ρ:Operand->Value) (w:World),Rel G S w->(∀x,VR G (ev t x) (ρ x))->∃v w' av S' G',(s ρ).run P w = .ok v w'/\K av S'/\G.le G'/\Rel G' S' w'/\VR G' av v) :UR P n o t S K:=by intro ro G a w Kc Q hr ht hk;obtain⟨v,w',av,S',G',h1,h2,h3,h4,h5⟩:=h G a.eval w hr (λx=>ht.eval x);exact Cp (by rw[hs,Sem.run_bind,h1];rfl) (hk v av S' G' w' h2 h3 h4 h5)
theorem CG{K:AV->St->Prop}(s:(Operand->Value)->Sem Unit)(hs:∀ρ,execOp ρ o=(do s ρ;pure .skip))(h:∀(G:Qh) (ρ:Operand->Value) (w:World),Rel G S w->(∀x,VR G (ev t x) (ρ x))->∃w' S' G',(s ρ).run P w = .ok () w'/\K .Qz S'/\G.le G'/\Rel G' S' w') :UR P n o t S K:=by intro ro G a w Kc Q hr ht hk;obtain⟨w',S',G',h1,h2,h3,h4⟩:=h G a.eval w hr (λx=>ht.eval x);exact JP (by rw[hs,Sem.run_bind,h1];rfl) (hk undef .Qz S' G' w' h2 h3 h4 (.Qz _))
variable{row:Array Value}{kk:Nat}{et:TypeId}
section
variable{P:Program}{G:Qh}{S:St}{w:World}
theorem tx{G':Qh}{L:Loc}{es:List AV}(Ri:w'.heap[L.block]? = some (.cells row L.t (0,0)))(hk:0<L.k)(hs:row.size=L.cap*L.k)(hl:es.length<=L.cap)(hm:L.cap<=maxLen)(hc:∀i (h:i<es.length),es[i].cells.length=L.k)(hv:∀i (h:i<es.length) j (h':j<es[i].cells.length),∃x,row[i*L.k+j]? = some x/\VR G' es[i].cells[j] x):jU G' w' L (.arr L.k es):=⟨hk,rfl,hl,hm,hc,λ_=>⟨row,Ri,hs,hv⟩⟩
theorem L6(hr:Rel G S w)(hv:VR G a v)(VQ:a.Q_=true)(Uh:0<a.cells.length)(r k g:Nat)(hg:G.loc r k g=none) :
  ∃G',(newVar T v).run P w = .ok ⟨w.heap.size,0,none⟩ (w.alloc (.cells v.cells T))/\G.le G'/\Rel G' (S.set r k (.arr a.cells.length [a]) g) (w.alloc (.cells v.cells T))/\
   VR G' (.ptr r k g 0 0) (.pointer (some ⟨w.heap.size,0,none⟩)):=by
 obtain⟨c1,c2⟩:=hv.cells VQ
 obtain⟨G',q1,q2,_,q4⟩:=hr.put (World.grownBy_alloc w (.cells v.cells T) none) r k g (.arr a.cells.length [a]) ⟨w.heap.size,1,a.cells.length,T⟩
  (λb hb=>by cases hb) (λ_=>.inl (le_refl _)) (.inl hg)
  (λG' hle=>tx (L:=⟨w.heap.size,1,a.cells.length,T⟩) (row:=v.cells) (heap_alloc_new w _) Uh (by simpa using c1) Qy (by simp[maxLen])
   (λi hi=>by simp at hi;subst hi;rfl)
   (λi hi j hj=>by
    simp at hi;subst hi;simp only[List.getElem_cons_zero,Nat.zero_mul,zero_add]at hj ⊢;exact⟨v.cells[j]'om,by simp,(c2 j hj om).mono hle⟩))
 refine⟨G',rfl,q1,q4,?_⟩;have:=VR.ptr (G:=G') r k g 0 0 _ q2;simpa using this
theorem Gp{K:AV->St->Prop}(ho:o.op = .alloc T)(r k:Nat)(Tf:di P T=true)(h:∀g,K (.ptr r k g 0 0) (S.set r k (.arr (QM P T).cells.length [QM P T]) g)):UR P n o t S K:=by
 refine lm (λ_=>Instr.alloc T true (.tuple #[])) (λρ=>by simp only[execOp,ho]) λG ρ w hr _=>?_;obtain⟨g,hg⟩:=hr.fresh r k;obtain⟨i,z,hi,hz,hzs,Xh,hz0,U5⟩:=iN Tf;obtain⟨h1,h2⟩:=mo (P:=P) (G:=G) (w:=w) Tf;have VQ:(QM P T).Q_=true:=by unfold QM;rw[Xh];exact U5
 have Uh:0<(QM P T).cells.length:=by have:=(h2.cells VQ).1;rw[Xh]at this;omega
 obtain⟨G',q1,q2,q3,q4⟩:=L6 (P:=P) (T:=T) hr h2 VQ Uh r k g hg;refine⟨_,_,_,_,G',?_,h g,q2,q3,q4⟩;simp only[Instr.alloc,Sem.run_bind,h1,Result.andThen_ok,q1,Sem.run_pure]
theorem Ka{x:Operand}{K:AV->St->Prop}(ho:o.op = .box T x)(r k:Nat)(VQ:(ev t x).Q_=true)(Uh:0<(ev t x).cells.length)(h:∀g,K (.ptr r k g 0 0) (S.set r k (.arr (ev t x).cells.length [ev t x]) g)):UR P n o t S K:=by refine lm (λρ=>Instr.box T (ρ x)) (λρ=>by simp only[execOp,ho]) λG ρ w hr he=>?_;obtain⟨g,hg⟩:=hr.fresh r k;obtain⟨G',q1,q2,q3,q4⟩:=L6 (P:=P) (T:=T) hr (he x) VQ Uh r k g hg;exact⟨_,_,_,_,G',by simp only[Instr.box,Sem.run_bind,q1,Result.andThen_ok,Sem.run_pure],h g,q2,q3,q4⟩
def nL(P:Program)(rg k:Nat)(T:TypeId)(hint:Option AV)(S:St)(K:AV->St->Prop):Prop:=
 match td P T with
 | .map kt _=>match eK P kt with
  | some sh=>(match hint with|none=>True|some (.int _ _)=>True|_=>False)/\∀g,K (.map rg k g) (S.set rg k (.mp sh 0 (λ_=>none)) g)
  | none=>False
 | _=>False
def fK(P:Program)(T:TypeId)(m i x:AV)(S:St)(K:AV->St->Prop):Prop:=
 match m with
 | .map r k g=>match S r k with
  | some (.mp sh n f,g')=>match td P T,kp sh i with
   | .map kt _,some ns=>(g'=g/\eK P kt=some sh)/\K .Qz (S.set r k (.mp sh (bif (f ns).isSome then n else n+1) (λq=>if q=ns then some x else f q)) g)
   | _,_=>False
  | _=>False
 | _=>False
theorem CK{kt:TypeId}{hint:Option Value}(hu:P.underlying T=some (.map kt et))(hh:∀v,hint=some v->∃k n,v = .int k n):(Instr.makeMap T hint).run P w = .ok (.map (some w.heap.size)) (w.alloc (.map #[] 0)):=by
 cases hint with
 | none=>rfl
 | some v=>
  obtain⟨k,n,rfl⟩:=hh v rfl;simp[Instr.makeMap,run_underlying hu,asInt,asIntOf,Result.andThen]
theorem CH{hint:Option Operand}{K:AV->St->Prop}(ho:o.op = .makeMap T hint)(r k:Nat)(h:nL P r k T (hint.map (ev t)) S K):UR P n o t S K:=by
 refine lm (λρ=>Instr.makeMap T (hint.map ρ)) (λρ=>by simp only[execOp,ho]) λG ρ w hr he=>?_;unfold nL at h;split at h
 ·rename_i kt et hd;split at h
  ·rename_i sh hk;obtain⟨hh,hK⟩:=h;obtain⟨g,hg⟩:=hr.fresh r k
   obtain⟨G',q1,q2,_,q4⟩:=hr.put (World.grownBy_alloc w (.map #[] 0) none) r k g (.mp sh 0 (λ_=>none)) ⟨w.heap.size,1,0,0⟩
    (λb hb=>by cases hb) (λ_=>.inl (le_refl _)) (.inl hg)
    (λG' _=>⟨by simp,#[],0,heap_alloc_new w _,rfl,λe he=>by simp at he,λns v hv=>by simp at hv,by simp⟩)
   refine⟨_,_,_,_,G',CK (Bm hd) ?_,hK g,q1,q4,.map r k g _ q2⟩;intro v hv;cases hint with
   | none=>cases hv
   | some y=>
    simp only[map_some,Option.some.injEq]at hv hh;subst hv;have hy:=he y
    cases hyy:ev t y<;>rw[hyy]at hh hy<;>first
     | exact hh.elim
     | (generalize ρ y=z at hy;cases hy;exact⟨_,_,rfl⟩)
  ·exact h.elim
 ·exact h.elim
theorem Fq{α:Type}{R:α->α->Prop}{l:List α}(h:l.Pairwise R){i j:Nat}{a b:α}(Sv:i<j)(hi:l[i]? = some a)(hj:l[j]? = some b):R a b:=by obtain⟨h1,rfl⟩:=List.getElem?_eq_some_iff.1 hi;obtain⟨h2,rfl⟩:=List.getElem?_eq_some_iff.1 hj;exact List.pairwise_iff_getElem.1 h i j h1 h2 Sv
theorem xJ{m i x:Operand}{K:AV->St->Prop}(ho:o.op = .mapUpdate T m i x\/o.op = .insert T m i x)(h:fK P T (ev t m) (ev t i) (ev t x) S K):UR P n o t S K:=by
 refine CG (λρ=>Instr.mapUpdate T (ρ m) (ρ i) (ρ x)) (λρ=>by rcases ho with ho|ho<;>simp only[execOp,ho]) λG ρ w hr he=>?_;have hm:=he m;have hi:=he i;have hx:=he x;generalize ρ m=vm at hm;generalize ρ i=vi at hi;generalize ρ x=vx at hx;generalize ev t x=ax at hx h;generalize ev t i=ai at hi h;unfold fK at h;cases hme:ev t m with
 | map r k g=>
  rw[hme]at hm h;cases hm with
  | map _ _ _ L hL=>
  simp only at h;split at h
  ·rename_i sh n f g' hS;split at h
   ·rename_i kt et ns hd V9;obtain⟨⟨rfl,hk⟩,hK⟩:=h;obtain⟨L',R5,Q',_⟩:=hr.obj _ _ _ _ hS;obtain rfl:L'=L:=by rw[hL]at R5;exact(Option.some.inj R5).symm
    obtain⟨h0,R1,clock,h1,h2,h3,h4,h5⟩:=Q';have Su:=rX V9 hi;have hu:=Bm hd;have QH:L'.block<w.heap.size:=(Array.getElem?_eq_some_iff.1 h1).1;have ad4:∀ob:Obj,w.grownBy { w with heap:=w.heap.setIfInBounds L'.block ob } (some L'.block):=λob=>⟨rfl,rfl,rfl,by simp,λq _ QI=>(MapKept.heap_set (o':=ob) h1).2 q (λhc=>QI (by rw[hc]))⟩;have Z':JD G S r k L'.block:=⟨_,_,_,hS,hL,h0,rfl⟩
    have fin:∀(T9:Array MapEntry) (Vt:Nat) (n':Nat) (f':List Int->Option AV),(Instr.mapUpdate T (.map (some L'.block)) vi vx).run P w = .ok () { w with heap:=w.heap.setIfInBounds L'.block (.map T9 Vt) }->
      K .Qz (S.set r k (.mp sh n' f') g')->T9.size=n'->(∀e∈T9.toList,∃ns v,gA sh ns=some e.key/\f' ns=some v/\VR G v e.val)->(∀ns v,f' ns=some v->∃e∈T9.toList,gA sh ns=some e.key)->
      (T9.toList.map (·.key)).Pairwise (λa b=>∀ns Ss,gA sh ns=some a->gA sh Ss=some b->ns≠Ss)->
      ∃w' S' G',(Instr.mapUpdate T (.map (some L'.block)) vi vx).run P w = .ok () w'/\K .Qz S'/\G.le G'/\Rel G' S' w':=by
     intro T9 Vt n' f' RI hK' a1 a2 a3 a4
     obtain⟨G',q1,_,_,q4⟩:=hr.put (ad4 (.map T9 Vt)) r k g' (.mp sh n' f') L' (λb hb=>by cases hb;exact Z') (λ_=>.inr Z') (.inr hL)
      (λG' hle=>⟨h0,T9,Vt,(MapKept.heap_set h1).1,a1,λe he=>let ⟨ns,v,b1,b2,b3⟩:=a2 e he;⟨ns,v,b1,b2,b3.mono hle⟩,a3,a4⟩)
     exact⟨_,_,G',RI,hK',q1,q4⟩
    rcases Db hk Su w R1.toList (λe he=>let ⟨ns,_,a,_,_⟩:=h3 e he;⟨ns,a⟩)with⟨f1,f2⟩|⟨j,e,f1,f2,f3⟩
    ·have hn:f ns=none:=by
      cases hf:f ns with
      | none=>rfl
      | some z=>
       obtain⟨e,he,hke⟩:=h4 ns z hf;exact absurd (Option.some.inj (hke.symm.trans Su)) (f2 e he)
     have QI:∀e∈R1.toList,∀Ss,gA sh Ss=some e.key->Ss≠ns:=λe he Ss Wn hc=>f2 e he (by rw[hc]at Wn;exact Option.some.inj (Wn.symm.trans Su));rw[hn]at hK;refine fin (R1.push { key:=vi,val:=vx,born:=clock }) (clock+1) (n+1) _ ?_ hK (by simp[h2]) ?_ ?_ ?_;·simp[Instr.mapUpdate,run_underlying hu,MapKept.run_getObj_map h1,nH hk Su,f1,MapKept.run_setObj_map _ h1,Result.andThen]
     ·intro e he;simp only[Array.toList_push,List.mem_append,List.mem_singleton]at he;rcases he with he|rfl;·obtain⟨Ss,v,b1,b2,b3⟩:=h3 e he;exact⟨Ss,v,b1,by rw[if_neg (QI e he Ss b1)];exact b2,b3⟩
      ·exact⟨ns,ax,Su,by rw[if_pos rfl],hx⟩
     ·intro Ss v hv;by_cases hc:Ss=ns;·subst hc;exact⟨{ key:=vi,val:=vx,born:=clock },by simp,Su⟩
      ·rw[if_neg hc]at hv;obtain⟨e,he,hke⟩:=h4 Ss v hv;exact⟨e,by simp at he ⊢;exact .inl he,hke⟩
     ·simp only[Array.toList_push,List.map_append,List.map_cons,List.map_nil];refine List.pairwise_append.2 ⟨h5,by simp,λa ha b hb=>?_⟩;obtain rfl:b=vi:=by simpa using hb
      obtain⟨e,he,rfl⟩:=List.mem_map.1 ha;intro ns1 ns2 k1 k2;obtain rfl:=rW k2 Su;exact QI e he ns1 k1
    ·have hj:R1[j]? = some e:=by simpa using f2
     have he:e∈R1.toList:=List.mem_of_getElem? f2;obtain⟨ns1,z,b1,b2,b3⟩:=h3 e he;obtain rfl:ns1=ns:=rW b1 (by rw[f3];exact Su);rw[b2]at hK;have Z9:((R1.modify j λe=>{ e with key:=vi,val:=vx }).toList.map (·.key))=R1.toList.map (·.key):=MapKept.modify_keys j _ (λe' he'=>by rw[hj]at he';cases he';exact f3.symm);have SC:∀y∈(R1.modify j λe=>{ e with key:=vi,val:=vx }).toList,(∃q,q≠j/\R1.toList[q]? = some y)\/y = { e with key:=vi,val:=vx }:=by
      intro y hy;rw[Array.mem_toList_iff,Array.mem_iff_getElem?]at hy;obtain⟨q,hq⟩:=hy;rw[Array.getElem?_modify]at hq;split at hq;·rename_i hjq;subst hjq;rw[hj]at hq;exact .inr (Option.some.inj hq).symm
      ·rename_i hjq;exact .inl ⟨q,λhc=>hjq hc.symm,by simpa using hq⟩
     refine fin (R1.modify j λe=>{ e with key:=vi,val:=vx }) clock n _ ?_ hK (by simp[h2]) ?_ ?_ (by rw[Z9];exact h5);·simp[Instr.mapUpdate,run_underlying hu,MapKept.run_getObj_map h1,nH hk Su,f1,hj,f3,GI Su,MapKept.run_setObj_map _ h1,Result.andThen]
     ·intro y hy;rcases SC y hy with⟨q,hqj,hq⟩|rfl
      ·obtain⟨Ss,v,c1,c2,c3⟩:=h3 y (List.mem_of_getElem? hq);refine⟨Ss,v,c1,?_,c3⟩;rw[if_neg];·exact c2
       ·intro hc;subst hc;have k1:(R1.toList.map (·.key))[q]? = some y.key:=by rw[List.getElem?_map,hq];rfl
        have k2:(R1.toList.map (·.key))[j]? = some e.key:=by rw[List.getElem?_map,f2];rfl
        rcases Nat.lt_or_gt_of_ne hqj with Vm|Vm;·exact Fq h5 Vm k1 k2 _ _ c1 b1 rfl
        ·exact Fq h5 Vm k2 k1 _ _ b1 c1 rfl
      ·exact⟨_,ax,Su,by rw[if_pos rfl],hx⟩
     ·intro Ss v hv;by_cases hc:Ss=ns1;·subst hc;refine⟨{ e with key:=vi,val:=vx },?_,Su⟩;rw[Array.mem_toList_iff,Array.mem_iff_getElem?];exact⟨j,by rw[Array.getElem?_modify,if_pos rfl,hj];rfl⟩
      ·rw[if_neg hc]at hv;obtain⟨y,hy,hky⟩:=h4 Ss v hv;have:y.key∈(R1.modify j λe=>{ e with key:=vi,val:=vx }).toList.map (·.key):=by rw[Z9];exact List.mem_map.2 ⟨y,hy,rfl⟩
       obtain⟨y',hy',Wn⟩:=List.mem_map.1 this;exact⟨y',hy',by rw[Wn];exact hky⟩
   ·exact h.elim
  ·exact h.elim
 | _=>rw[hme]at h;exact h.elim
def lj(P:Program)(T:TypeId)(a x:AV)(S:St)(K:AV->St->Prop):Prop:=
 match a with
 | .ptr r k g i off=>match S r k with
  | some (.arr kk es,g')=>(g'=g/\i<es.length/\0<sz P T/\x.cells.length=sz P T/\off+sz P T<=kk/\fo x.cells=true)/\
    K .Qz (S.set r k (.arr kk (es.set i (TN (es.getD i .Qz) off x))) g)
  | _=>False
 | _=>False
theorem Cc{x:AV}(h:fo x.cells=true):x.Q_=true:=by cases x<;>simp_all [fo,AV.cells,AV.Q_,AV.one]
theorem JZ{v x:AV}(hv:v.cells.length=kk)(hl:off+x.cells.length<=kk)(hx:0<x.cells.length) :(TN v off x).cells.length=kk/\∀j,j<kk->(TN v off x).cells[j]? = if off<=j/\j<off+x.cells.length then x.cells[j-off]? else v.cells[j]?:=by
 have key:∀l:List AV,l.length=kk->(l.take off++x.cells++l.drop (off+x.cells.length)).length=kk/\∀j,j<kk->
   (l.take off++x.cells++l.drop (off+x.cells.length))[j]? = if off<=j/\j<off+x.cells.length then x.cells[j-off]? else l[j]?:=by
  intro l UY;have QH:(l.take off).length=off:=by simp;omega
  refine⟨by simp;omega,λj hj=>?_⟩;split;·rename_i hc;rw[append_assoc,List.getElem?_append_right om,QH,List.getElem?_append_left om]
  ·rename_i hc;by_cases h:j<off;·rw[append_assoc,List.getElem?_append_left om,List.getElem?_take,if_pos h]
   ·rw[append_assoc,List.getElem?_append_right om,QH,List.getElem?_append_right om,List.getElem?_drop];congr 1;omega
 cases v with
 | agg l=>exact key l hv
 | _=>
  have h1:kk=1:=by rw[<-hv];rfl
  subst h1;have ho:off=0:=om;subst ho;exact⟨by show x.cells.length=1;omega,λj hj=>by rw[if_pos om];rfl⟩
theorem Gi{v x:AV}(hv:v.cells.length=kk)(hl:off+x.cells.length<=kk)(hx:0<x.cells.length) :
  (TN v off x).cells.length=kk/\∀j,(h:j<kk)->(h1:j<(TN v off x).cells.length)->
   (∃(h2:off<=j/\j-off<x.cells.length),(TN v off x).cells[j]=x.cells[j-off]'h2.2)\/(¬(off<=j/\j<off+x.cells.length)/\∃h3:j<v.cells.length,(TN v off x).cells[j]=v.cells[j]):=by
 obtain⟨a1,a2⟩:=JZ hv hl hx;refine⟨a1,λj hj h1=>?_⟩;have:=a2 j hj;rw[List.getElem?_eq_getElem h1]at this;split at this;·rename_i hc;have h2:j-off<x.cells.length:=om;rw[List.getElem?_eq_getElem h2]at this;exact .inl ⟨⟨hc.1,h2⟩,Option.some.inj this⟩
 ·rename_i hc;have h2:j<v.cells.length:=om;rw[List.getElem?_eq_getElem h2]at this;exact .inr ⟨hc,h2,Option.some.inj this⟩
theorem Bw{b x:Nat}(Ri:w.heap[b]? = some (.cells row et (0,0)))(RP:0<sz P T)(hs:v.cells.size=sz P T)(hl:x+v.cells.size<=row.size)(h1:∀u∈v.cells.toList,u.oneCell'=true) :(storeVar T ⟨b,x,none⟩ v).run P w = .ok () (w.setRow b (row.toList.take x++v.cells.toList++row.toList.drop (x+v.cells.toList.length)).toArray):=by have Uf:=run_storeCells_at P b x et v.cells.toList 0 row w Ri (by simpa using hl) h1;simp only[add_zero]at Uf;simp[storeVar,ee RP,hs,Uf]
theorem Gl{a x:Operand}{K:AV->St->Prop}(ho:o.op = .store T a x)(h:lj P T (ev t a) (ev t x) S K):UR P n o t S K:=by
 refine CG (λρ=>Instr.storeAt T (ρ a) (ρ x)) (λρ=>by simp only[execOp,ho]) λG ρ w hr he=>?_;have ha:=he a;have hx:=he x;generalize ρ a=va at ha;generalize ρ x=vx at hx;generalize ev t x=ax at hx h;unfold lj at h;cases Zm:ev t a with
 | ptr r k g i off=>
  rw[Zm]at ha h;cases ha with
  | ptr _ _ _ _ _ L hL=>
  simp only at h;split at h
  ·rename_i kk es g' hS;obtain⟨⟨rfl,hi,RP,WW,adH,Si⟩,hK⟩:=h;obtain⟨L',R5,Q',_⟩:=hr.obj _ _ _ _ hS;obtain rfl:L'=L:=by rw[hL]at R5;exact(Option.some.inj R5).symm
   obtain⟨Xm,SZ,Sp,hm,UE,U6⟩:=Q';obtain⟨row,Ri,Vy,TW⟩:=U6 om;obtain⟨c1,c2⟩:=hx.cells (Cc Si);have hxc:vx.cells.size=sz P T:=om;have hfl:i*L'.k+off+sz P T<=row.size:=by rw[Vy,SZ];have:(i+1)*kk<=L'.cap*kk:=mul_le_mul_right _ om;rw[succ_mul]at this;omega
   have X7:∀u∈vx.cells.toList,u.oneCell'=true:=by intro u hu;obtain⟨j,hj,rfl⟩:=List.mem_iff_getElem.1 hu;simp only[length_toList]at hj;rw[Array.getElem_toList];have SU:j<ax.cells.length:=om;refine(c2 j SU hj).Va ?_;exact List.all_eq_true.1 Si _ (getElem_mem SU)
   have RI:=Bw (P:=P) (w:=w) (T:=T) (x:=i*L'.k+off) Ri RP hxc om X7;have Rr:=setRow_heap w L'.block row (row.toList.take (i*L'.k+off)++vx.cells.toList++row.toList.drop (i*L'.k+off+vx.cells.toList.length)).toArray L'.t (0,0) Ri;have TV:es.getD i .Qz=es[i]:=by rw[List.getD_eq_getElem?_getD,List.getElem?_eq_getElem hi];rfl
   rw[TV]at hK;obtain⟨s1,s2⟩:=Gi (v:=es[i]) (x:=ax) (off:=off) (UE i hi) om om
   have adr:∀p,p<row.size->(row.toList.take (i*L'.k+off)++vx.cells.toList++row.toList.drop (i*L'.k+off+vx.cells.toList.length))[p]? =
     if h:i*L'.k+off<=p/\p<i*L'.k+off+vx.cells.size then vx.cells[p-(i*L'.k+off)]? else row[p]?:=by
    intro p hp;have QH:(row.toList.take (i*L'.k+off)).length=i*L'.k+off:=by simp;omega
    split;·rename_i hc;rw[append_assoc,List.getElem?_append_right om,QH,List.getElem?_append_left (by simp;omega)];simp
    ·rename_i hc;by_cases Vm:p<i*L'.k+off;·rw[append_assoc,List.getElem?_append_left om,List.getElem?_take,if_pos Vm];simp
     ·rw[append_assoc,List.getElem?_append_right om,QH,List.getElem?_append_right (by simp;omega),List.getElem?_drop];simp only[length_toList];rw[show i*L'.k+off+vx.cells.size+(p-(i*L'.k+off)-vx.cells.size)=p from by omega];simp
   obtain⟨G',q1,q2,_,q4⟩:=hr.put (w':=w.setRow L'.block _) (row:=some L'.block) ⟨rfl,rfl,rfl,by simp,λb _ hb=>setRow_other w L'.block b _ (λe=>hb (by rw[e]))⟩ r k g'
    (.arr kk (es.set i (TN es[i] off ax))) L' (λb hb=>by injection hb with hb;subst hb;exact⟨_,_,_,hS,hL,om,rfl⟩) (λhc=>.inr ⟨_,_,_,hS,hL,hc,rfl⟩) (.inr hL)
    (λG' hle=>by
     rw[<-SZ];refine tx (row:=(row.toList.take (i*L'.k+off)++vx.cells.toList++row.toList.drop (i*L'.k+off+vx.cells.toList.length)).toArray) Rr om ?_ (by simpa using Sp) hm ?_ ?_
     ·have X3:row.size=L'.cap*L'.k:=by rw[SZ];exact Vy
      simp only[size_toArray,List.length_append,length_take,length_drop,length_toList];rw[<-X3];omega
     ·intro i' Q9;simp only[List.length_set]at Q9;rw[List.getElem_set];split;·rw[s1,SZ]
      ·rw[UE i' Q9,SZ]
     ·intro i' Q9 j hj;simp only[List.length_set]at Q9;have Vp:j<kk:=by
       rw[List.getElem_set]at hj;split at hj;·omega
       ·rw[UE i' Q9]at hj;exact hj
      have hp:i'*L'.k+j<row.size:=by rw[Vy,SZ];exact qu om Vp
      have hq:=adr (i'*L'.k+j) hp;simp only[List.getElem?_toArray];rw[hq];by_cases hii:i=i'
      ·subst hii;simp only[List.getElem_set_self]at hj ⊢;rcases s2 j Vp hj with⟨h2,e⟩|⟨h2,h3,e⟩;·rw[dif_pos om,e];rw[show i*L'.k+j-(i*L'.k+off)=j-off from by omega];exact⟨vx.cells[j-off]'om,by simp,(c2 _ h2.2 om).mono hle⟩
       ·rw[dif_neg om,e];obtain⟨y,y1,y2⟩:=TW i hi j h3;rw[SZ];exact⟨y,y1,y2.mono hle⟩
      ·have QI:¬(i*L'.k+off<=i'*L'.k+j/\i'*L'.k+j<i*L'.k+off+vx.cells.size):=by rintro⟨b1,b2⟩;have h3:i'*L'.k+j=i*L'.k+(i'*L'.k+j-i*L'.k):=om;have h4:i'*L'.k+j-i*L'.k<L'.k:=om;exact hii (K2 om h4 h3).1.symm
       rw[dif_neg QI];simp only[List.getElem_set_ne hii]at hj ⊢;obtain⟨y,y1,y2⟩:=TW i' Q9 j hj;rw[SZ];exact⟨y,y1,y2.mono hle⟩)
   refine⟨_,_,G',?_,hK,q1,q4⟩;simp only[Instr.storeAt,Instr.sureAddr,Sem.run_bind,Sem.run_pure,Result.andThen_ok];exact RI
  ·exact h.elim
 | _=>rw[Zm]at h;exact h.elim
end
end Go.Gg
namespace Go.Gg
open Go.RowKit (Below)
variable{T:TypeId}{K:AV->St->Prop}{o:Oper}{n:Nat}{t:Env}
section
variable{P:Program}{G:Qh}{S:St}{w:World}
theorem BI{i:TypeInfo}{z:Value}(Tf:di P T=true)(hi:P.info? T=some i)(hz:i.zero=some z):0<i.size/\z.cells.size=i.size/\ (QM P T).cells.length=i.size/\∀j (h:j<(QM P T).cells.length) (h':j<z.cells.size),VR G (QM P T).cells[j] z.cells[j]:=by
 obtain⟨i',z',Q9,Y_,hzs,Xh,hz0,U5⟩:=iN Tf;rw[hi]at Q9;cases Q9;rw[hz]at Y_;cases Y_;have hV:VR G (QM P T) (sS P T):=VR.ofConst G _;have VQ:(QM P T).Q_=true:=by unfold QM;rw[Xh];exact U5
 rw[Xh]at hV;obtain⟨c1,c2⟩:=hV.cells VQ;exact⟨hz0,hzs,om,c2⟩
def vP(P:Program)(rg k:Nat)(T:TypeId)(l c:AV)(S:St)(K:AV->St->Prop):Prop:=
 match td P T with
 | .slice e=>match l,c with
  | .int _ n,.int _ m=>(0<=n/\n<=m/\(UQ P e:Int)*m<=281474976710656/\m<=9223372036854775807)/\di P e=true/\
    ∀g,K (.sl (QM P e).cells.length rg k g 0 n.toNat) (S.set rg k (.arr (QM P e).cells.length (replicate n.toNat (QM P e))) g)
  | _,_=>False
 | _=>False
theorem HX{l c:Operand}(ho:o.op = .makeSlice T l c)(rg k:Nat)(h:vP P rg k T (ev t l) (ev t c) S K):UR P n o t S K:=by
 refine lm (λρ=>Instr.makeSlice T (ρ l) (ρ c)) (λρ=>by simp only[execOp,ho]) λG ρ w hr he=>?_;unfold vP at h;split at h
 ·rename_i e hd;have hl:=he l;have hc:=he c;generalize ρ l=vl at hl;generalize ρ c=vc at hc;split at h
  ·rename_i kl nn kc mm e1 e2;rw[e1]at hl;rw[e2]at hc;cases hl;cases hc;obtain⟨⟨h0,h1,h2,h3⟩,Tf,hK⟩:=h;obtain⟨i,z,hi,hz,_⟩:=iN Tf;obtain⟨b1,b2,b3,b4⟩:=BI (P:=P) (G:=G) Tf hi hz;have Xo:(i.bytes:Int)*mm<=281474976710656:=by simpa[UQ,hi]using h2
   have RI:=run_make (P:=P) w T e i z (iw hd) hi hz kl kc nn mm h0 h1 Xo h3;obtain⟨g,hg⟩:=hr.fresh rg k;have TW:∀p j,j<i.size->p*i.size+j<(madeCells z.cells (mm.toNat*i.size)).size->(madeCells z.cells (mm.toNat*i.size))[p*i.size+j]? = z.cells[j]?:=by
    intro p j hj hp;have YE:p*i.size+j<mm.toNat*i.size:=by simpa[madeCells]using hp
    have hm:(p*i.size+j)%i.size=j:=by rw[mul_comm,Nat.mul_add_mod,Nat.mod_eq_of_lt hj]
    have hjz:j<z.cells.size:=om;simp only[madeCells,Array.getElem?_map,Array.getElem?_range,YE,if_true,map_some,b2,hm];rw[Array.getElem?_eq_getElem hjz];simp[hjz]
   obtain⟨G',q1,q2,_,q4⟩:=hr.put (World.grownBy_alloc w (.cells (madeCells z.cells (mm.toNat*i.size)) e) none) rg k g (.arr (QM P e).cells.length (replicate nn.toNat (QM P e)))
    ⟨w.heap.size,mm.toNat,(QM P e).cells.length,e⟩ (λb hb=>by cases hb) (λ_=>.inl (le_refl _)) (.inl hg)
    (λG' hle=>tx (L:=⟨w.heap.size,mm.toNat,(QM P e).cells.length,e⟩) (row:=madeCells z.cells (mm.toNat*i.size)) (heap_alloc_new w _) (by simp only;omega) (by simp[madeCells,b3])
     (by simp;omega) (by simp[maxLen];omega) (λi hi=>by simp)
     (λp hp j hj=>by
      simp only[List.length_replicate]at hp;simp only[List.getElem_replicate]at hj ⊢;have hjz:j<z.cells.size:=om;refine⟨z.cells[j],?_,(b4 j hj hjz).mono hle⟩;rw[b3,TW p j om];·simp[hjz]
      ·simp only[madeCells,Array.size_map,Array.size_range];exact qu om om))
   refine⟨_,_,_,_,G',RI,hK g,q1,q4,?_⟩;have:=VR.sl (G:=G') (QM P e).cells.length rg k g 0 nn.toNat (some ⟨w.heap.size,0,none⟩) _ q2 rfl (by simp;omega) (by simp[maxLen];omega) (λ_=>by simp);simpa using this
  ·exact h.elim
 ·exact h.elim
theorem AG(k:Nat):∀(vs:List Value) (s:Nat) (cells:Array Value),(∀v∈vs,v.cells.size=k)->(s+vs.length)*k<=cells.size->
  ∃ys,Instr.fill (λi=>some (i*k,k)) cells ((vs.zipIdx s).map λp=>(p.2,p.1))=some ys/\ys.size=cells.size/\
   (∀i (h:i<vs.length) j,j<k->ys[(s+i)*k+j]? = vs[i].cells[j]?)/\(∀p,p<s*k->ys[p]? = cells[p]?)
 | [],s,cells,_,_=>⟨cells,rfl,rfl,λi h=>by simp at h,λ_ _=>rfl⟩
 | v::vs,s,cells,hk,hl=>by
  have hv:=hk v Qy;have UY:(s+1+vs.length)*k<=cells.size:=by simpa[add_assoc,Nat.add_comm 1]using hl
  have hsk:(s+1)*k<=cells.size:=Nat.le_trans (mul_le_mul_right _ om) UY;have alW:s*k+k<=cells.size:=by rw[succ_mul]at hsk;exact hsk
  have hf:=vB (s*k) v.cells.toList 0 cells;have he:(v.cells.zipIdx.foldl (λcs (p:Value×Nat)=>cs.setIfInBounds (s*k+p.2) p.1) cells)=(v.cells.toList.zipIdx 0).foldl (λcs (p:Value×Nat)=>cs.setIfInBounds (s*k+p.2) p.1) cells:=by rw[<-Array.foldl_toList,Array.toList_zipIdx]
  obtain⟨ys,y1,y2,y3,y4⟩:=AG k vs (s+1) _ (λu hu=>hk u (by simp[hu])) (by rw[hf.1];exact UY);refine⟨ys,?_,by rw[y2,hf.1],λi hi j hj=>?_,λp hp=>?_⟩;·simp only[List.zipIdx_cons,List.map_cons,Instr.fill];rw[if_neg (by simp;omega),he];exact y1
  ·cases i with
   | zero=>
    simp only[add_zero,List.getElem_cons_zero];rw[y4 _ (by rw[succ_mul];omega),hf.2 _ om,dif_pos (by simp;omega)];simp only[add_zero];have:j<v.cells.size:=om;rw[Array.getElem?_eq_getElem this];congr 1;simp
   | succ i=>
    simp only[List.length_cons]at hi;rw[show s+(i+1)=s+1+i from by omega,y3 i om j hj];simp
  ·rw[y4 p (by rw[succ_mul];omega),hf.2 _ om,dif_neg (by simp;omega)]
def fp(P:Program)(rg k:Nat)(T:TypeId)(len:Nat)(idx:List Nat)(es:List AV)(S:St)(K:AV->St->Prop):Prop:=
 match td P T with
 | .slice e=>((idx==range len)=true/\es.length=len/\di P e=true/\len*(QM P e).cells.length<=16777216/\(es.all λx=>x.Q_&&(x.cells.length==(QM P e).cells.length))=true)/\
   ∀g,K (.sl (QM P e).cells.length rg k g 0 len) (S.set rg k (.arr (QM P e).cells.length es) g)
 | _=>False
theorem q_{len:Nat}{parts:Array (Nat×Operand)}(ho:o.op = .buildSlice T len parts)(rg k:Nat)(h:fp P rg k T len (parts.toList.map (·.1)) (parts.toList.map λp=>ev t p.2) S K):UR P n o t S K:=by
 refine lm (λρ=>Instr.buildSlice T len (parts.map λ(i,x)=>(i,ρ x))) (λρ=>by simp only[execOp,ho]) λG ρ w hr he=>?_;unfold fp at h;split at h
 ·rename_i e hd;obtain⟨⟨ahm,hlen,Tf,agH,Sj⟩,hK⟩:=h;obtain⟨i,z,hi,hz,_,Xh,_⟩:=iN Tf;obtain⟨b1,b2,b3,b4⟩:=BI (P:=P) (G:=G) Tf hi hz;have Z7:parts.toList.length=len:=by simpa using hlen
  have U7:parts.toList.map (λp=>(p.1,ρ p.2))=((parts.toList.map λp=>ρ p.2).zipIdx 0).map λp=>(p.2,p.1):=by
   have h1:parts.toList.map (·.1)=range len:=by simpa using ahm
   apply List.ext_getElem;·simp
   ·intro j h2 h3;have W5:j<parts.toList.length:=by simpa using h2
    have h4:(parts.toList.map (·.1))[j]'(by simpa using h2)=(range len)[j]'(by simp only[List.length_range];omega):=by simp only[h1]
    simp at h4 ⊢;exact h4
  have hV:∀j (h:j<parts.toList.length),VR G (ev t parts.toList[j].2) (ρ parts.toList[j].2)/\(ρ parts.toList[j].2).cells.size=i.size/\(ev t parts.toList[j].2).Q_=true/\(ev t parts.toList[j].2).cells.length=i.size:=by intro j hj;have h1:=List.all_eq_true.1 Sj (ev t parts.toList[j].2) (List.mem_map.2 ⟨_,getElem_mem hj,rfl⟩);simp only[and_eq_true,beq_iff_eq]at h1;have h2:=he parts.toList[j].2;have h3:=(h2.cells h1.1).1;exact⟨h2,om,h1.1,om⟩
  have ajG:∀(zc:Array Value),zc.size=i.size->((Array.range (len*i.size)).map (zc[· % zc.size]!)).size=len*i.size:=by intro zc _;simp
  obtain⟨ys,y1,y2,y3,_⟩:=AG i.size (parts.toList.map λp=>ρ p.2) 0 ((Array.range (len*i.size)).map (z.cells[· % z.cells.size]!))
   (λv hv=>by
    obtain⟨p,hp,rfl⟩:=List.mem_map.1 hv;obtain⟨j,hj,rfl⟩:=List.mem_iff_getElem.1 hp;exact(hV j hj).2.1) (by simp[Z7])
  have RI:(Instr.buildSlice T len (parts.map λ(i,x)=>(i,ρ x))).run P w = .ok (.slice (some ⟨w.heap.size,0,none⟩) len len) (w.alloc (.cells ys e)):=by
   have hsm:¬(len*i.size > 2^24):=by rw[<-b3];omega
   have UX:(parts.map λ(i,x)=>(i,ρ x)).toList=parts.toList.map (λp=>(p.1,ρ p.2)):=by simp
   by_cases Zg:len*i.size=0
   ·have Tk:len=0:=by
     rcases Nat.mul_eq_zero.1 Zg with h|h;·exact h
     ·omega
    subst Tk;have Xl:parts = #[]:=by apply ext';simpa using Z7
    subst Xl;have hys:ys = #[]:=by apply Array.eq_empty_of_size_eq_zero;rw[y2];simp
    subst hys;simp[Instr.buildSlice,run_underlying (iw hd),sizeOf,typeInfo,hi,Instr.fill,newRow,Array.range_zero']
   ·simp only[Instr.buildSlice,Sem.run_bind,run_underlying (iw hd),Result.andThen_ok];simp only[sizeOf,typeInfo,Sem.run_bind,run_program,Result.andThen_ok,hi,Sem.run_pure,if_neg hsm,if_neg Zg,zeroValue,hz,UX,U7];simp[y1,newRow]
  obtain⟨g,hg⟩:=hr.fresh rg k;have TU:∀j (h:j<parts.toList.length),(parts.toList.map λp=>ev t p.2)[j]'(by simpa using h)=ev t parts.toList[j].2:=λj h=>by simp
  obtain⟨G',q1,q2,_,q4⟩:=hr.put (World.grownBy_alloc w (.cells ys e) none) rg k g (.arr (QM P e).cells.length (parts.toList.map λp=>ev t p.2))
   ⟨w.heap.size,len,(QM P e).cells.length,e⟩ (λb hb=>by cases hb) (λ_=>.inl (le_refl _)) (.inl hg)
   (λG' hle=>tx (L:=⟨w.heap.size,len,(QM P e).cells.length,e⟩) (row:=ys) (heap_alloc_new w _) (by simp only;omega) (by simp only[y2,b3];simp) (by simp only;omega)
    (by
     have:len<=len*(QM P e).cells.length:=Nat.le_mul_of_pos_right _ om;simp only[maxLen];omega)
    (λp hp=>by
     have YE:p<parts.toList.length:=by simpa using hp
     rw[TU p YE,(hV p YE).2.2.2,b3])
    (λp hp j hj=>by
     have YE:p<parts.toList.length:=by simpa using hp
     simp only[TU p YE]at hj ⊢;have h1:=hV p YE;have SU:j<(ρ parts.toList[p].2).cells.size:=om;refine⟨(ρ parts.toList[p].2).cells[j],?_,((h1.1.cells h1.2.2.1).2 j hj SU).mono hle⟩;have:=y3 p (by simpa using YE) j om;simp only[zero_add,List.getElem_map]at this;rw[b3,this];simp))
  refine⟨_,_,_,_,G',RI,hK g,q1,q4,?_⟩
  have:=VR.sl (G:=G') (QM P e).cells.length rg k g 0 len (some ⟨w.heap.size,0,none⟩) _ q2 rfl Qy
   (by
    have:len<=len*(QM P e).cells.length:=Nat.le_mul_of_pos_right _ om;simp only[maxLen];omega) (λ_=>by simp)
  simpa using this
 ·exact h.elim
end
end Go.Gg
namespace Go.Gg
open Go.RowKit (Below)
def qL(S:St):AV->Option (List AV)
 | .nil=>some []
 | .list es=>some es
 | .sl kk r k g off len=>match S r k with
  | some (.arr Um es,g')=>if g'=g/\Um=kk/\off+len<=es.length then some ((es.drop off).take len)else none
  | _=>none
 | _=>none
variable{x:Value}{i:TypeInfo}{news:List Value}{base:Option Addr}{n kk:Nat}{a:AV}{es:List AV}
section
variable{P:Program}{G:Qh}{S:St}{w:World}
theorem DS{v:Value}(hr:Rel G S w)(hv:VR G a v)(hs:qL S a=some es)(hk:∀e∈es,e.cells.length=kk)(Xm:0<kk) :
  ∃(ao:Option Addr) (cap:Nat) (news:List Value),v = .slice ao es.length cap/\es.length<=cap/\cap<=maxLen/\news.length=es.length*kk/\
   (∀w':World,w'.heap=w.heap->(Builtin.firstCells kk es.length v).run P w' = .ok news.toArray w')/\
   (∀i (h:i<es.length) j (h':j<es[i].cells.length),∃x,news[i*kk+j]? = some x/\VR G es[i].cells[j] x):=by
 have key:∀(c x cap:Nat) (ao:Option Addr) (u:Nat->Nat->Value),(0<es.length->ao=some ⟨c,x,none⟩)->es.length<=cap->cap<=maxLen->
   (∀i j,i<es.length->j<kk->w.cell? ⟨c,x+(i*kk+j),none⟩=some (u i j))->(∀i (h:i<es.length) j (h':j<es[i].cells.length),VR G es[i].cells[j] (u i j))->
   ∃(news:List Value),news.length=es.length*kk/\
   (∀w':World,w'.heap=w.heap->(Builtin.firstCells kk es.length (.slice ao es.length cap)).run P w' = .ok news.toArray w')/\
   (∀i (h:i<es.length) j (h':j<es[i].cells.length),∃x,news[i*kk+j]? = some x/\VR G es[i].cells[j] x):=by
  intro c x cap ao u ha h1 h2 hc hV;refine⟨(range (es.length*kk)).map λp=>u (p/kk) (p%kk),by simp,λw' hw=>?_,λi h j h'=>?_⟩
  ·cases hl:es.length with
   | zero=>
    cases ao with
    | none=>simp[Builtin.firstCells]
    | some b=>simp[Builtin.firstCells,loadCells,loadCellsFrom]
   | succ m=>
    rw[<-hl,ha om];refine run_firstCells_some (P:=P) w' kk es.length _ es.length cap _ Qy (λp q hq=>?_);have hp:p<es.length*kk:=by
     by_cases hp:p<es.length*kk;·exact hp
     ·simp[hp]at hq
    simp[hp]at hq;subst hq;have hpd:p/kk<es.length:=Nat.div_lt_of_lt_mul (by rw[mul_comm];exact hp);have WG:=hc (p/kk) (p%kk) hpd (Nat.mod_lt _ Xm);have hdm:p/kk*kk+p%kk=p:=by rw[mul_comm];exact Nat.div_add_mod p kk
    rw[hdm]at WG;rw[iL];have:w'.cell? ⟨c,x+p,none⟩=w.cell? ⟨c,x+p,none⟩:=by simp[World.cell?,hw]
    rw[this,WG]
  ·have Vp:j<kk:=by rw[<-hk es[i] (getElem_mem h)];exact h'
   have QH:i*kk+j<es.length*kk:=qu h Vp;have e1:(i*kk+j)/kk=i:=by rw[mul_comm,Nat.mul_add_div om,Nat.div_eq_of_lt Vp];rfl
   have e2:(i*kk+j)%kk=j:=by rw[mul_comm,Nat.mul_add_mod,Nat.mod_eq_of_lt Vp]
   refine⟨u i j,?_,hV i h j h'⟩;simp[QH,e1,e2]
 cases hv with
 | nil=>
  simp only[qL,Option.some.injEq]at hs;subst hs;obtain⟨news,q1,q2,q3⟩:=key 0 0 0 none (λ_ _=>undef) (λh=>by simp at h) Qy Qy (λi _ h=>by simp at h) (λi h=>by simp at h);exact⟨none,0,news,rfl,by simp,by simp,q1,q2,q3⟩
 | list Tq a n cap c x k u hn Sp hm ha Wn hi hvv=>
  simp only[qL,Option.some.injEq]at hs;subst hs;subst hn;obtain⟨news,q1,q2,q3⟩:=key c x cap a u ha Sp hm (λi j h1 h2=>by
   have SZ:k=kk:=(Wn i h1).symm.trans (hk _ (getElem_mem h1));subst SZ;exact hr.RM _ _ _ (hi i j h1 h2)) hvv
  exact⟨a,cap,news,rfl,Sp,hm,q1,q2,q3⟩
 | sl Um r k g off len a L hL SZ hc hm ha=>
  simp only[qL]at hs;split at hs
  ·rename_i agj Tq g' hS;split at hs
   ·rename_i aef;obtain⟨rfl,rfl,hle⟩:=aef;simp only[Option.some.injEq]at hs;have hlen:es.length=len:=by rw[<-hs];simp;omega
    subst hlen;obtain⟨L',R5,Q',_⟩:=hr.obj _ _ _ _ hS;obtain rfl:L'=L:=by rw[hL]at R5;exact(Option.some.inj R5).symm
    have TU:∀i (h:i<es.length),∃h':off+i<Tq.length,es[i]=Tq[off+i]:=λi h=>⟨om,(List.getElem_of_eq hs.symm h).trans (by rw[getElem_take,getElem_drop])⟩;by_cases Zg:es.length=0;·obtain⟨news,q1,q2,q3⟩:=key 0 0 (L'.cap-off) a (λ_ _=>undef) (λh=>om) om om (λi _ h=>om) (λi h=>om);exact⟨a,L'.cap-off,news,rfl,om,om,q1,q2,q3⟩
    ·have ahh:agj=kk:=by obtain⟨h',e⟩:=TU 0 om;have h1:=Q'.2.2.2.2.1 _ h';rw[<-e,hk _ (getElem_mem om)]at h1;exact h1.symm
     have SE:∀i j,i<es.length->j<kk->∃u,w.cell? ⟨L'.block,off*L'.k+(i*kk+j),none⟩=some u/\∀(h:i<es.length) (h':j<es[i].cells.length),VR G es[i].cells[j] u:=by
      intro i j h1 h2;obtain⟨h',e⟩:=TU i h1;obtain⟨y,y1,y2⟩:=Q'.cell h' (j:=j) om;refine⟨y,?_,λh h''=>by simp only[e];exact y2⟩;rw[SZ,ahh]at *
      rw[add_mul,add_assoc]at y1;exact y1
     obtain⟨u,hu⟩:∃u:Nat->Nat->Value,∀i j,i<es.length->j<kk->w.cell? ⟨L'.block,off*L'.k+(i*kk+j),none⟩=some (u i j)/\∀(h:i<es.length) (h':j<es[i].cells.length),VR G es[i].cells[j] (u i j):=by refine⟨λi j=>if h:i<es.length/\j<kk then (SE i j h.1 h.2).choose else undef,λi j h1 h2=>?_⟩;show w.cell? _=some (dite _ _ _)/\∀_ _,VR G _ (dite _ _ _);rw[dif_pos (⟨h1,h2⟩:i<es.length/\j<kk)];exact(SE i j h1 h2).choose_spec
     obtain⟨news,q1,q2,q3⟩:=key L'.block (off*L'.k) (L'.cap-off) a u (λh=>ha om) om om (λi j h1 h2=>(hu i j h1 h2).1)
      (λi h j h'=>(hu i j h (by rw[<-hk _ (getElem_mem h)];exact h')).2 h h')
     exact⟨a,L'.cap-off,news,rfl,om,om,q1,q2,q3⟩
   ·cases hs
  ·cases hs
 | _=>cases hs
theorem wv{t ty e:TypeId}(ht:P.underlying t=some (.slice e))(hi:P.info? e=some i){b m cap:Nat}{row:Array Value}{et:TypeId}(hx:(Builtin.lenOf x).run P w = .ok m w)(hf:(Builtin.firstCells i.size m x).run P w = .ok news.toArray w)(Ri:w.heap[b]? = some (.cells row et (0,0)))(h1:∀u∈news,u.oneCell'=true)(T5:n+m<=cap)(Vq:n*i.size+news.length<=row.size):
  (Builtin.append_ #[t,t] ty #[.slice (some ⟨b,0,none⟩) n cap,x]).run P w =
   .ok (.slice (some ⟨b,0,none⟩) (n+m) cap) (w.setRow b (row.toList.take (n*i.size)++news++row.toList.drop (n*i.size+news.length)).toArray):=by
 have Uf:=run_storeCells_at P b (n*i.size) et news 0 row w Ri (by simpa using Vq) h1;simp only[add_zero]at Uf;simp[Builtin.append_,run_underlying ht,sizeOf,typeInfo,hi,hx,T5,hf,iL,Uf]
theorem wu{t ty e:TypeId}(ht:P.underlying t=some (.slice e))(hi:P.info? e=some i){m cap:Nat}(hx:(Builtin.lenOf x).run P w = .ok m w)(hf:(Builtin.firstCells i.size m x).run P w = .ok news.toArray w)(hn:news=[])(T5:n+m<=cap) :(Builtin.append_ #[t,t] ty #[.slice base n cap,x]).run P w = .ok (.slice base (n+m) cap) w:=by subst hn;cases base<;>simp[Builtin.append_,run_underlying ht,sizeOf,typeInfo,hi,hx,T5,hf,storeCells]
theorem xQ{t ty e:TypeId}{z:Value}(ht:P.underlying t=some (.slice e))(hi:P.info? e=some i)(hz:i.zero=some z){m cap:Nat}{Uw:List Value}(hx:(Builtin.lenOf x).run P w = .ok m w)(ho:∀w':World,w'.heap=w.heap->(Builtin.firstCells i.size n (.slice base n cap)).run P w' = .ok Uw.toArray w')(hf:∀w':World,w'.heap=w.heap->(Builtin.firstCells i.size m x).run P w' = .ok news.toArray w')(hg:cap<n+m)(h63:n+m<=9223372036854775807)(Vq:(n+m)*i.bytes<=140737488355328) :
  (Builtin.append_ #[t,t] ty #[.slice base n cap,x]).run P w =
   .ok (.slice (some ⟨w.heap.size,0,none⟩) (n+m) (grownCap w (n+m) cap e))
    (w.drew.alloc (.cells (Uw.toArray++news.toArray++Builtin.zeroCells z.cells (grownCap w (n+m) cap e-(n+m))) e)):=by
 have hn:¬(n+m<=cap):=om;have ahW:¬(9223372036854775807<((n:Int)+(m:Int))):=om;have h48:=growslice_fits (need:=n+m) (old:=cap) (bytes:=i.bytes) hg Vq;have ahX:¬(281474976710656<Builtin.nextslicecap (n+m) cap*i.bytes):=om;have e1:=ho w.drew rfl;have e2:=hf w.drew rfl;simp[Builtin.append_,run_underlying ht,sizeOf,typeInfo,zeroValue,hi,hz,hx,hn,ahW,ahX,Question.forced,e1,e2,newRow,grownCap];congr 2;apply ext';simp[append_assoc]
def fi(P:Program)(rg k:Nat)(T:TypeId)(b x:AV)(S:St)(K:AV->St->Prop):Prop:=
 match td P T with
 | .slice e=>match qL S x with
  | some xs=>(di P e=true/\(xs.all λx=>fo x.cells&&(x.cells.length==(QM P e).cells.length))=true)/\(match b with
   | .nil=>xs.length*UQ P e<=140737488355328/\xs.length<=9223372036854775807/\∀g,K (.sl (QM P e).cells.length rg k g 0 xs.length) (S.set rg k (.arr (QM P e).cells.length xs) g)
   | .sl kk r k' g off n=>match S r k' with
    | some (.arr Um es,g')=>(g'=g/\off=0/\Um=kk/\kk=(QM P e).cells.length/\n=es.length)/\((es.length+xs.length)*UQ P e<=140737488355328/\es.length+xs.length<=9223372036854775807)/\
      ∀g2,K (.sl kk r k' g2 0 (es.length+xs.length)) (S.set r k' (.arr kk (es++xs)) g2)
    | _=>False
   | _=>False)
  | none=>False
 | _=>False
theorem sM{T ty e:TypeId}{base:Value}{xs:List AV}(hr:Rel G S w)(hx:VR G a x)(WW:qL S a=some xs)(hd:P.underlying T=some (.slice e))(Tf:di P e=true)(SZ:kk=(QM P e).cells.length)(Sj:∀y∈xs,fo y.cells=true/\y.cells.length=kk)(r k:Nat)(hn:n=es.length)(hek:∀y∈es,y.cells.length=kk)(aa6:(es.length+xs.length)*UQ P e<=140737488355328)(h63:es.length+xs.length<=9223372036854775807)(aej:(es=[]/\∃ao,base = .slice ao 0 0)\/∃g L,S r k=some (.arr kk es,g)/\G.loc r k g=some L/\0<L.cap/\base = .slice (some ⟨L.block,0,none⟩) n L.cap) :∃v w' g G',(Builtin.append_ #[T,T] ty #[base,x]).run P w = .ok v w'/\G.le G'/\Rel G' (S.set r k (.arr kk (es++xs)) g) w'/\VR G' (.sl kk r k g 0 (es.length+xs.length)) v:=by
 obtain⟨i,z,hi,hz,_⟩:=iN Tf;obtain⟨b1,b2,b3,_⟩:=BI (P:=P) (G:=G) Tf hi hz;have Z8:kk=i.size:=om;subst hn;have Xo:(es.length+xs.length)*i.bytes<=140737488355328:=by simpa[UQ,hi]using aa6
 obtain⟨ao,cap,news,rfl,UE,hcm,X9,hf,hV⟩:=DS (P:=P) hr hx WW (λy hy=>(Sj y hy).2) om;have hlen:(Builtin.lenOf (.slice ao xs.length cap)).run P w = .ok xs.length w:=rfl;obtain⟨g,hg⟩:=hr.fresh r k;have X7:∀u∈news,u.oneCell'=true:=by
  intro u hu;obtain⟨p,hp,rfl⟩:=List.mem_iff_getElem.1 hu;have hpk:p<xs.length*kk:=om;have hpd:p/kk<xs.length:=Nat.div_lt_of_lt_mul (by rw[mul_comm];exact hpk);have hdm:p/kk*kk+p%kk=p:=by rw[mul_comm];exact Nat.div_add_mod p kk
  have U9:=Sj xs[p/kk] (getElem_mem hpd);have hjm:p%kk<xs[p/kk].cells.length:=by rw[U9.2];exact Nat.mod_lt _ om
  obtain⟨y,y1,y2⟩:=hV _ hpd _ hjm;rw[hdm,List.getElem?_eq_getElem hp]at y1;rw[Option.some.inj y1];exact y2.Va (List.all_eq_true.1 U9.1 _ (getElem_mem hjm))
 have aem:∀(G':Qh),G.le G'->∀(row:Array Value),(∀p (h:p<es.length) j (h':j<es[p].cells.length),∃x,row[p*kk+j]? = some x/\VR G es[p].cells[j] x)->
   (∀q,q<xs.length*kk->row[es.length*kk+q]? = news[q]?)->
   ∀p (h:p<(es++xs).length) j (h':j<(es++xs)[p].cells.length),∃x,row[p*kk+j]? = some x/\VR G' (es++xs)[p].cells[j] x:=by
  intro G' hle row h1 h2 p hp j hj;simp only[List.length_append]at hp;by_cases Xl:p<es.length;·have e:(es++xs)[p]=es[p]:=List.getElem_append_left Xl;simp only[e]at hj ⊢;obtain⟨y,y1,y2⟩:=h1 p Xl j hj;exact⟨y,y1,y2.mono hle⟩
  ·have e:(es++xs)[p]=xs[p-es.length]:=List.getElem_append_right om;simp only[e]at hj ⊢;obtain⟨y,y1,y2⟩:=hV (p-es.length) om j hj;have Vp:j<kk:=by rw[<-(Sj _ (getElem_mem (show p-es.length<xs.length by omega))).2];exact hj
   have e2:p*kk+j=es.length*kk+((p-es.length)*kk+j):=by rw[<-add_assoc,<-add_mul];congr 2;omega
   refine⟨y,?_,y2.mono hle⟩;rw[e2,h2 _ (qu om Vp),y1]
 have SE:∀p (h:p<(es++xs).length),(es++xs)[p].cells.length=kk:=by
  intro p hp;rcases List.mem_append.1 (getElem_mem hp)with h|h;·exact hek _ h
  ·exact(Sj _ h).2
 have grow:∀(base:Option Addr) (c:Nat) (Uw:List Value),Uw.length=es.length*kk->(∀w':World,w'.heap=w.heap->(Builtin.firstCells kk es.length (.slice base es.length c)).run P w' = .ok Uw.toArray w')->
   (∀p (h:p<es.length) j (h':j<es[p].cells.length),∃x,Uw[p*kk+j]? = some x/\VR G es[p].cells[j] x)->c<es.length+xs.length->
   ∃v w' G',(Builtin.append_ #[T,T] ty #[.slice base es.length c,.slice ao xs.length cap]).run P w = .ok v w'/\G.le G'/\Rel G' (S.set r k (.arr kk (es++xs)) g) w'/\VR G' (.sl kk r k g 0 (es.length+xs.length)) v:=by
  intro base c Uw ho1 ho2 ho3 QH;have RI:=xQ (P:=P) (w:=w) (ty:=ty) hd hi hz (base:=base) (cap:=c) hlen (by rw[<-Z8];exact ho2) (by rw[<-Z8];exact hf) QH h63 Xo;have TV:=grownCap_ge w (es.length+xs.length) c e;have aeh:=grownCap_le_maxLen w (es.length+xs.length) c e (by simp only[maxLen];omega)
  obtain⟨G',q1,q2,_,q4⟩:=hr.put (ud w (.cells (Uw.toArray++news.toArray++Builtin.zeroCells z.cells (grownCap w (es.length+xs.length) c e-(es.length+xs.length))) e)) r k g (.arr kk (es++xs))
   ⟨w.heap.size,grownCap w (es.length+xs.length) c e,kk,e⟩ (λb hb=>by cases hb) (λ_=>.inl (le_refl _)) (.inl hg)
   (λG' hle=>tx (L:=⟨w.heap.size,grownCap w (es.length+xs.length) c e,kk,e⟩) (row:=Uw.toArray++news.toArray++Builtin.zeroCells z.cells (grownCap w (es.length+xs.length) c e-(es.length+xs.length)))
    (heap_alloc_new w.drew _) (by simp only;omega)
    (by
     simp only[Array.size_append,size_toArray,size_zeroCells,ho1,X9,b2,<-Z8,<-add_mul];congr 1;omega) (by simpa using TV) aeh SE
    (aem G' hle _ (λp h j h'=>by
      obtain⟨y,y1,y2⟩:=ho3 p h j h';refine⟨y,?_,y2⟩;have QH:p*kk+j<Uw.length:=by
       by_cases hc:p*kk+j<Uw.length;·exact hc
       ·rw[List.getElem?_eq_none om]at y1;cases y1
      rw[Array.append_assoc,Array.getElem?_append_left (by simpa using QH)];simpa using y1)
     (λq hq=>by
      rw[Array.append_assoc,Array.getElem?_append_right (by simp only[size_toArray];omega),Array.getElem?_append_left (by simp only[size_toArray];omega)];simp only[size_toArray,ho1,Nat.add_sub_cancel_left];simp)))
  refine⟨_,_,G',RI,q1,q4,?_⟩;have:=VR.sl (G:=G') kk r k g 0 (es.length+xs.length) (some ⟨w.heap.size,0,none⟩) _ q2 rfl (by simpa using TV) aeh (λ_=>by simp);simpa using this
 rcases aej with⟨rfl,ao',rfl⟩|⟨g0,L,hS,hL,Vr,rfl⟩
 ·by_cases Zb:xs.length=0
  ·have hn0:news=[]:=List.eq_nil_of_length_eq_zero (by rw[X9,Zb];simp);have ada:xs=[]:=List.eq_nil_of_length_eq_zero Zb;subst ada;have RI:=wu (P:=P) (w:=w) (ty:=ty) hd hi (base:=ao') (n:=0) (cap:=0) hlen (by rw[<-Z8];exact hf w rfl) hn0 Qy
   obtain⟨G',q1,q2,_,q4⟩:=hr.put (r_ w) r k g (.arr kk []) ⟨0,0,kk,e⟩ (λb hb=>by cases hb) (λh=>by simp at h) (.inl hg)
    (λG' hle=>⟨om,rfl,by simp,by simp[maxLen],λi h=>by simp at h,λh=>by simp at h⟩)
   refine⟨_,_,g,G',RI,q1,q4,?_⟩;have:=VR.sl (G:=G') kk r k g 0 0 ao' _ q2 rfl Qy (by simp[maxLen]) (λh=>by simp at h);simpa using this
  ·obtain⟨v,w',G',h1,h2,h3,h4⟩:=grow ao' 0 [] Qy (λw' _=>by cases ao'<;>simp[Builtin.firstCells,loadCells,loadCellsFrom]) (λp h=>by simp at h) (by simp;omega);exact⟨v,w',g,G',h1,h2,h3,h4⟩
 ·obtain⟨L',R5,Q',Vl⟩:=hr.obj _ _ _ _ hS;obtain rfl:L'=L:=by rw[hL]at R5;exact(Option.some.inj R5).symm
  obtain⟨Xm,Wa,Z_,hLm,amR,U6⟩:=Q';obtain⟨row,Ri,Vy,TW⟩:=U6 Vr;by_cases T5:es.length+xs.length<=L'.cap
  ·have Vq:es.length*i.size+news.length<=row.size:=by rw[X9,Vy,<-Z8,<-add_mul];exact mul_le_mul_right _ T5
   have RI:=wv (P:=P) (w:=w) (ty:=ty) hd hi (n:=es.length) hlen (by rw[<-Z8];exact hf w rfl) Ri X7 T5 Vq;rw[<-Z8]at Vq RI;have Rr:=setRow_heap w L'.block row (row.toList.take (es.length*kk)++news++row.toList.drop (es.length*kk+news.length)).toArray L'.t (0,0) Ri;have QH:(row.toList.take (es.length*kk)).length=es.length*kk:=by simp;omega
   obtain⟨G',q1,q2,_,q4⟩:=hr.put (w':=w.setRow L'.block _) (row:=some L'.block) ⟨rfl,rfl,rfl,by simp,λb _ hb=>setRow_other w L'.block b _ (λe=>hb (by rw[e]))⟩ r k g
    (.arr kk (es++xs)) L' (λb hb=>by injection hb with hb;subst hb;exact⟨_,_,_,hS,hL,Vr,rfl⟩) (λhc=>.inr ⟨_,_,_,hS,hL,hc,rfl⟩) (.inl hg)
    (λG' hle=>by
     have hh:=tx (G':=G') (L:=L') (es:=es++xs) (row:=(row.toList.take (es.length*kk)++news++row.toList.drop (es.length*kk+news.length)).toArray) Rr om
      (by
       have X3:row.size=L'.cap*L'.k:=by rw[Wa];exact Vy
       simp only[size_toArray,List.length_append,length_take,length_drop,length_toList];rw[<-X3];omega) (by simpa using T5) hLm (λp h=>by rw[SE p h,Wa])
      (by
       rw[Wa];refine aem G' hle _ (λp h j h'=>?_) (λq hq=>?_)
       ·obtain⟨y,y1,y2⟩:=TW p h j h';refine⟨y,?_,y2⟩;have Vp:j<kk:=by rw[<-hek _ (getElem_mem h)];exact h'
        have Vm:p*kk+j<es.length*kk:=qu h Vp;simp only[List.getElem?_toArray];rw[append_assoc,List.getElem?_append_left om,List.getElem?_take,if_pos Vm];simpa using y1
       ·simp only[List.getElem?_toArray];rw[append_assoc,List.getElem?_append_right om,QH,List.getElem?_append_left om];congr 1;omega)
     rw[Wa]at hh;exact hh)
   refine⟨_,_,g,G',RI,q1,q4,?_⟩;have:=VR.sl (G:=G') kk r k g 0 (es.length+xs.length) (some ⟨L'.block,0,none⟩) _ q2 Wa (by simpa using T5) hLm (λ_=>by simp);simpa using this
  ·obtain⟨v,w',G',h1,h2,h3,h4⟩:=grow (some ⟨L'.block,0,none⟩) L'.cap (row.toList.take (es.length*kk))
    (by simp only[length_take,length_toList,Vy];have:=mul_le_mul_right kk Z_;omega)
    (λw' hw=>by
     refine run_firstCells_some (P:=P) w' kk es.length _ es.length L'.cap _ (by simp only[length_take,length_toList,Vy];have:=mul_le_mul_right kk Z_;omega) (λp q hq=>?_);rw[List.getElem?_take]at hq;split at hq
     ·rw[iL,zero_add];have:w'.cell? ⟨L'.block,p,none⟩=w.cell? ⟨L'.block,p,none⟩:=by simp[World.cell?,hw]
      rw[this,cell_of_row w _ _ row _ _ Ri];simpa using hq
     ·cases hq)
    (λp h j h'=>by
     obtain⟨y,y1,y2⟩:=TW p h j h';have Vp:j<kk:=by rw[<-hek _ (getElem_mem h)];exact h'
     refine⟨y,?_,y2⟩;rw[List.getElem?_take,if_pos (qu h Vp)];simpa using y1) om
   exact⟨v,w',g,G',h1,h2,h3,h4⟩
theorem DY{o:Oper}{t:Env}{T:TypeId}{b x:Operand}{K:AV->St->Prop}(ho:o.op = .call { callee:=.builtin .append,args:=#[b,x],argTypes:=#[T,T] })(rg k:Nat)(h:fi P rg k T (ev t b) (ev t x) S K):UR P n o t S K:=by
 refine lm (λρ=>Builtin.append_ #[T,T] o.type #[ρ b,ρ x]) (λρ=>by simp[execOp,ho,resolve,invoke,builtin]) λG ρ w hr he=>?_;unfold fi at h;split at h
 ·rename_i e hd;split at h
  ·rename_i xs WW;obtain⟨⟨Tf,Sj⟩,h⟩:=h;have aab:∀y∈xs,fo y.cells=true/\y.cells.length=(QM P e).cells.length:=λy hy=>by have:=List.all_eq_true.1 Sj y hy;simpa using this
   have hb:=he b;generalize ρ b=vb at hb;generalize ev t b=ab at hb h;cases hb with
   | nil=>
    obtain⟨h1,h2,hK⟩:=h
    obtain⟨v,w',g,G',q1,q2,q3,q4⟩:=sM (P:=P) (ty:=o.type) (base:=.slice none 0 0) (n:=0) (es:=[]) hr (he x) WW (iw hd) Tf rfl aab rg k rfl (λy hy=>by cases hy)
     (by simpa using h1) (by simpa using h2) (.inl ⟨rfl,_,rfl⟩)
    simp only[List.nil_append,List.length_nil,zero_add]at q3 q4;exact⟨v,w',_,_,G',q1,hK g,q2,q3,q4⟩
   | sl kk r k' g off n a L hL hk hc hm ha=>
    simp only at h;split at h
    ·rename_i Um es g' hS;obtain⟨⟨rfl,rfl,rfl,SZ,rfl⟩,⟨h1,h2⟩,hK⟩:=h;obtain⟨L',R5,Q',_⟩:=hr.obj _ _ _ _ hS;obtain rfl:L'=L:=by rw[hL]at R5;exact(Option.some.inj R5).symm
     obtain⟨v,w',g2,G',q1,q2,q3,q4⟩:=sM (P:=P) (ty:=o.type) (n:=es.length) (es:=es) hr (he x) WW (iw hd) Tf SZ (λy hy=>by rw[SZ];exact aab y hy) r k' rfl
      (λy hy=>by
       obtain⟨p,hp,rfl⟩:=List.mem_iff_getElem.1 hy;exact Q'.2.2.2.2.1 p hp) h1 h2
      (base:=.slice a es.length (L'.cap-0))
      (by
       by_cases Vr:0<L'.cap;·refine .inr ⟨_,_,hS,hL,Vr,?_⟩;rw[ha Vr];simp
       ·have:es.length=0:=om;refine .inl ⟨List.eq_nil_of_length_eq_zero this,a,?_⟩;rw[this];congr 1;omega)
     exact⟨v,w',_,_,G',q1,hK g2,q2,q3,q4⟩
    ·exact h.elim
   | _=>exact h.elim
  ·exact h.elim
 ·exact h.elim
end
end Go.Gg
