/- An own logic over the kit's weakest preconditions, part T: rows within boxes, closures. Conditions: none. -/
import Derived.Test.YtbnjpdocceckeaaGreatGc
set_option linter.all false
open List (getElem_cons_zero length_set)
open Nat (beq)
namespace Go.Gg
def OWG(G:Qh):QW->QW->Prop
 | .arr kk es,.arr Um Tq=>kk=Um/\es.length=Tq.length/\∀i (h:i<es.length) (h':i<Tq.length),es[i].cells.length=Tq[i].cells.length/\∀j (h1:j<es[i].cells.length) (h2:j<Tq[i].cells.length) z,VR G es[i].cells[j] z->VR G Tq[i].cells[j] z
 | _,_=>False
variable{S:St}{o:QW}{r k g:Nat}
theorem Rel.owG{G:Qh}{w:World}(h:Rel G S w){o':QW}(hS:S r k=some (o,g))(ho:OWG G o o'):Rel G (S.set r k o' g) w:=by
 refine h.XF λr' k' o2 g2 e=>?_;simp only[St.set]at e;split at e
 ·rename_i hc;obtain⟨rfl,rfl⟩:=hc;cases e;refine⟨o,hS,λL hL=>?_⟩;obtain⟨L',R5,Q',_⟩:=h.obj _ _ _ _ hS;obtain rfl:L'=L:=by rw[hL]at R5;exact(Option.some.inj R5).symm
  cases o with
  | mp=>exact ho.elim
  | lp=>exact ho.elim
  | arr kk es=>
  cases o' with
  | mp=>exact ho.elim
  | lp=>exact ho.elim
  | arr Um Tq=>
  obtain⟨rfl,hl,hv⟩:=ho;obtain⟨h1,h2,h3,Zo,h4,h5⟩:=Q';refine⟨h1,h2,om,Zo,λi hi=>?_,λhc=>?_⟩
  ·rw[<-(hv i om hi).1];exact h4 i om
  ·obtain⟨row,a1,a2,a3⟩:=h5 hc;refine⟨row,a1,a2,λi hi j hj=>?_⟩;have Zd:=hv i om hi;obtain⟨z,z1,z2⟩:=a3 i om j (by rw[Zd.1];exact hj);exact⟨z,z1,Zd.2 j _ hj z z2⟩
 ·exact⟨o2,e,λL hL=>by
   obtain⟨L',R5,Q',_⟩:=h.obj _ _ _ _ e;obtain rfl:L'=L:=by rw[hL]at R5;exact(Option.some.inj R5).symm
   exact Q'⟩
variable{P:Program}{rg n:Nat}{t:Env}{b:Nat->AV}{S0:St}{l:dG}{a:AV}
theorem Vc.TQ{c:Code}{Q:AK}{kk g0:Nat}(k0 i k k1:Nat)(hS:SK l k0=some (.arr kk [a],g0))(hc:a.cells[i]? = some .nil)(hk:0<k1)(QI:k≠k0)(hb:(λg=>(b g).cells)=λg=>a.cells.set i (.sl k1 rg k g 0 0))(h:∀g,Vc P n c Q t (Qr S0 rg ((k0,.arr kk [b g],g0)::(k,.arr k1 [],g)::l))):Vc P n c Q t (Qr S0 rg l):=by
 intro ro QT G w0 w hr ht;obtain⟨g,G',q1,q2,q3⟩:=hr.V6 rg k k1 hk;have hS2:((Qr S0 rg l).set rg k (.arr k1 []) g) rg k0=some (.arr kk [a],g0):=by simp only[St.set];rw[if_neg (λhh=>QI hh.2.symm),jD];exact hS
 have hcb:(b g).cells=a.cells.set i (.sl k1 rg k g 0 0):=congrFun hb g;have q4:=q2.owG (o':=.arr kk [b g]) hS2 ⟨rfl,rfl,λx h1 h2=>by
  have:x=0:=by simpa using h1
  subst this;simp only[getElem_cons_zero];refine⟨by rw[hcb,length_set],λj h3 h4 z hz=>?_⟩;have e:(b g).cells[j]=(a.cells.set i (.sl k1 rg k g 0 0))[j]'(by rw[length_set];exact h3):=by simp only[hcb]
  rw[e,List.getElem_set];split;·rename_i Sv;subst Sv;rw[List.getElem?_eq_getElem h3]at hc;rw[Option.some.inj hc]at hz;cases hz;exact q3
  ·exact hz⟩
 rw[jt,jt]at q4;exact wpIn_mono (h g ro QT G' w0 w q4 (ht.mono q1)) (λ_ _ _ he=>AK.QP q1 he)
def OWA:List AV->List AV->Prop
 | [],[]=>True
 | a::l,b::m=>VWC a b/\OWA l m
 | _,_=>False
theorem OWA.len:∀ {l m:List AV},OWA l m->l.length=m.length
 | [],[],_=>rfl
 | _::_,_::_,h=>by rw[List.length_cons,List.length_cons,OWA.len h.2]
 | [],_::_,h=>h.elim
 | _::_,[],h=>h.elim
theorem OWA.at:∀ {l m:List AV},OWA l m->∀i (h1:i<l.length) (h2:i<m.length),VWC l[i] m[i]
 | _::_,_::_,h,0,_,_=>h.1
 | _::_,_::_,h,i+1,h1,h2=>OWA.at h.2 i (by simpa using h1) (by simpa using h2)
 | [],_,_,_,h1,_=>absurd h1 Qy
 | _::_,[],h,_,_,_=>h.elim
variable{d:Option Nat}
theorem gu{K:AV->St->Prop}{x i:Operand}{kd:IntKind}{m:Int}{T e:TypeId}{off c off' len s:Nat}(hT:td P T = .array len e)(hs:sz P e=s)(h0:0<s)(hx:ev t x = .ptr r k g 0 off)(hi:ev t i = .int kd m)(hm:m=(c:Int))(hc:c<len)(ho:off+c*s=off')(h:K (.ptr r k g 0 off') S):vo P rg d (.indexAddr T x i) t S K:=by rw[Sz,hx,hi,gW,hT];subst hm;refine⟨⟨om,om⟩,by rw[hs];exact h0,?_⟩;rw[hs,Int.toNat_natCast,ho];exact h
theorem P5:DK []:=trivial
variable{X:List (Nat×Nat)}{p:Nat×Nat}
theorem dV(h:∀q∈X,¬(q.1=p.1/\q.2=p.2))(h':DK X):DK (p::X):=⟨h,h'⟩
theorem dU:∀q∈([]:List (Nat×Nat)),¬(q.1=p.1/\q.2=p.2):=λ_ h=>by simp at h
variable{q:Nat×Nat}
theorem aq(h:¬(q.1=p.1/\q.2=p.2))(h':∀q∈X,¬(q.1=p.1/\q.2=p.2)):∀q'∈q::X,¬(q'.1=p.1/\q'.2=p.2):=λq' hq=>by
 rcases List.mem_cons.1 hq with e|e;·subst e;exact h
 ·exact h' q' e
theorem cc{r' a b:Nat}(h:beq b a=false):¬(((r,b):Nat×Nat).1=((r',a):Nat×Nat).1/\((r,b):Nat×Nat).2=((r',a):Nat×Nat).2):=λhh=>BM h hh.2
theorem aK{r' a b:Nat}(h:r≠r'):¬(((r,b):Nat×Nat).1=((r',a):Nat×Nat).1/\((r,b):Nat×Nat).2=((r',a):Nat×Nat).2):=λhh=>h hh.1
theorem PA(h:¬(p.1=q.1/\p.2=q.2)):¬(q.1=p.1/\q.2=p.2):=λhh=>h ⟨hh.1.symm,hh.2.symm⟩
theorem aQ{p q:Nat×Nat}:∀ {X:List (Nat×Nat)} (i j:Nat),DK X->Nat.ble (i+1) j=true->X[i]? = some p->X[j]? = some q->¬(q.1=p.1/\q.2=p.2)
 | [],i,_,_,_,h,_=>by simp at h
 | _::_,0,0,_,Sv,_,_=>by simp at Sv
 | x::X,0,j+1,hd,_,h1,h2=>by simp at h1;subst h1;exact hd.1 q (List.mem_of_getElem? (by simpa using h2))
 | x::X,i+1,0,_,Sv,_,_=>by simp at Sv
 | x::X,i+1,j+1,hd,Sv,h1,h2=>aQ i j hd.2 (by simpa using Sv) (by simpa using h1) (by simpa using h2)
theorem bp{a b c d:Nat}(h:¬(((a,b):Nat×Nat).1=((c,d):Nat×Nat).1/\((a,b):Nat×Nat).2=((c,d):Nat×Nat).2)):(c=a/\d=b)=False:=eq_false λhh=>h ⟨hh.1.symm,hh.2.symm⟩
theorem aG:Qk S []=S:=rfl
theorem ac{X:cd}(h:S r k=some (o,g))(h':Qk S X=S):Qk S ((r,k,o,g)::X)=S:=by
 show(Qk S X).set r k o g=S;rw[h'];funext a b;simp only[St.set];split;·rename_i hc;obtain⟨rfl,rfl⟩:=hc;exact h.symm
 ·rfl
theorem aN{S1 S2:St}{X:cd}(h:Qk S X=S1)(h':S1.set r k o g=S2):Qk S ((r,k,o,g)::X)=S2:=by show(Qk S X).set r k o g=S2;rw[h,h']
variable{K:Env->St->Prop}
theorem Wl.TQ{ops c:List Oper}{kk g0:Nat}(k0 i k k1:Nat)(hS:SK l k0=some (.arr kk [a],g0))(hc:a.cells[i]? = some .nil)(hk:0<k1)(QI:k≠k0)(hb:(λg=>(b g).cells)=λg=>a.cells.set i (.sl k1 rg k g 0 0))(h:∀g,Wl P n ops c K t (Qr S0 rg ((k0,.arr kk [b g],g0)::(k,.arr k1 [],g)::l))):Wl P n ops c K t (Qr S0 rg l):=by
 intro QT ro G w0 w Q hr ht hQ;obtain⟨g,G',q1,q2,q3⟩:=hr.V6 rg k k1 hk;have hS2:((Qr S0 rg l).set rg k (.arr k1 []) g) rg k0=some (.arr kk [a],g0):=by simp only[St.set];rw[if_neg (λhh=>QI hh.2.symm),jD];exact hS
 have hcb:(b g).cells=a.cells.set i (.sl k1 rg k g 0 0):=congrFun hb g;have q4:=q2.owG (o':=.arr kk [b g]) hS2 ⟨rfl,rfl,λx h1 h2=>by
  have:x=0:=by simpa using h1
  subst this;simp only[getElem_cons_zero];refine⟨by rw[hcb,length_set],λj h3 h4 z hz=>?_⟩;have e:(b g).cells[j]=(a.cells.set i (.sl k1 rg k g 0 0))[j]'(by rw[length_set];exact h3):=by simp only[hcb]
  rw[e,List.getElem_set];split;·rename_i Sv;subst Sv;rw[List.getElem?_eq_getElem h3]at hc;rw[Option.some.inj hc]at hz;cases hz;exact q3
  ·exact hz⟩
 rw[jt,jt]at q4;exact h g QT ro G' w0 w Q q4 (ht.mono q1) (λa w hl=>hQ a w (Gg.QP hl q1))
theorem ag{l:List Key}{S':St}{x:QW×Nat}(h:bU l S' S)(i:Nat)(hi:l[i]? = some (r,k))(hS:S r k=some x):S' r k=some x:=(h (r,k) (List.mem_of_getElem? hi)).trans hS
theorem cu{x:Nat×Nat×QW×Nat}{X Y:cd}(h:Qk S X=gJ Y S):Qk S (x::X)=gJ (x::Y) S:=by show(Qk S X).set _ _ _ _=(gJ Y S).set _ _ _ _;rw[h]
theorem Th{us:Nat->S9}{ops rest:List Oper}{ty:TypeId}{pos:String}{after:Array Edge}{j:Nat}{log:Log}{f:Operand}{xs:List Operand}{ts:Array TypeId}{g:FuncId}{fs QG vs:List AV}{V:YO->AV}{rd wk:List Key}{wr:YO->List WE}(hf:ev t f = .fn (.func g) fs QG)(ha:SG (fs++(xs.map (ev t)++QG)) vs)(hu:us j=wc V rd wk wr)(Xn:cf ops log j (rd,wk))(QI:(rd,wk)≠(([],[]):qz))(hk:∀γ,(wr γ).map (λx=>(x.1,x.2.1))=wk)(hc:∀S',bU rd S' S->bU wk S' S->Ctr P g vs S' (λv To=>∃γ,v=V γ/\To=gJ (wr γ) S'))(h:∀γ,RK P rg us ops rest (j+1) ((j,(rd,wk))::log) (dh t d (V γ)) (gJ (wr γ) S) K):RK P rg us ops (⟨d,.call { callee:=.value f,args:=xs.toArray,argTypes:=ts },ty,pos,after,none⟩::rest) j log t S K:=by
 rw[Cs,hu];refine⟨Xn,?_⟩;rw[hf];refine⟨⟨λγ x hx=>?_,λS' h1 h2=>Ctr.arg ha.len (λi h1 h2=>ha.at i h1 h2) (hc S' h1 h2)⟩,λγ=>?_⟩
 ·rw[show(wc V rd wk wr).wk=wk from rfl,<-hk γ];exact List.mem_map.2 ⟨x,hx,rfl⟩
 ·have:=h γ;rw[show lg j ((wc V rd wk wr).rd,(wc V rd wk wr).wk) log=(j,(rd,wk))::log from L5 QI];exact this
open Go.RowKit (Below)
section
variable{α:Type}{S S0:St}{rf rg kk:Nat}{enc:α->AV}{gs:Nat->Nat}{T:List (List α)}{L:dG}
end
section
variable{α:Type}{P:Program}{rg rf kk:Nat}{enc:α->AV}{gs gs':Nat->Nat}{T T':List (List α)}{t:Env}{S0:St}{L:dG}{K:AV->St->Prop}{x y a:Operand}{m:Int}{d:Option Nat}{Ty e:TypeId}
end
section
variable{P:Program}{n:Nat}{ops rest:List Oper}{K:Env->St->Prop}{d:Option Nat}{ty:TypeId}{pos:String}{after:Array Edge}{t:Env}{S:St}{x:Operand}
end
end Go.Gg
namespace Go.Gg
structure Qa(V:Type) where
 n:Nat
 f:List Int->Option V
def bB{V:Type}(m:Qa V)(k:List Int):Option V:=m.f k
def QL{V:Type}(m:Qa V)(k:List Int)(v:V):Qa V:=⟨bif (m.f k).isSome then m.n else m.n+1,λq=>if q=k then some v else m.f q⟩
def de{V:Type}:Qa V:=⟨0,λ_=>none⟩
def ay{V:Type}(enc:V->AV)(sh:Sh)(m:Qa V):QW:=.mp sh m.n (λq=>(m.f q).map enc)
variable{S:St}
theorem jg:gJ [] S=S:=rfl
variable{r k g:Nat}{o:QW}
theorem cw{S1 S2:St}{X:List WE}(h:gJ X S=S1)(h':S1.set r k o g=S2):gJ ((r,k,o,g)::X) S=S2:=by show(gJ X S).set r k o g=S2;rw[h,h']
def MR{α:Type}(o:Option α)(A:Prop)(B:α->Prop):Prop:=(o=none->A)/\∀x,o=some x->B x
variable{d:Option Nat}{x i y:Operand}{S':St}
section
variable{P:Program}{rg:Nat}{t:Env}{K:AV->St->Prop}{V:Type}{enc:V->AV}{m:Qa V}{sh:Sh}{T kt et:TypeId}{ns:List Int}
theorem iS{z:V}(hS:S r k=some (ay enc sh m,g))(hT:td P T = .map kt et)(hk:eK P kt=some sh)(QT:di P et=true)(hz:QM P et=enc z)(hx:ev t x = .map r k g)(hi:kp sh (ev t i)=some ns)(h:K (.tuple [enc ((bB m ns).getD z),.bool (bB m ns).isSome]) S):vo P rg d (.lookup T x i true) t S K:=by rw[U1,hx];simp only[iM,hS,ay,hT,hi];refine⟨⟨trivial,hk,QT⟩,?_⟩;rw[hz];unfold bB at h;cases hm:m.f ns<;>rw[hm]at h<;>exact h
theorem lD{z:V}(hS:S r k=some (ay enc sh m,g))(hT:td P T = .map kt et)(hk:eK P kt=some sh)(QT:di P et=true)(hz:QM P et=enc z)(hx:ev t x = .map r k g)(hi:kp sh (ev t i)=some ns)(h:K (enc ((bB m ns).getD z)) S):vo P rg d (.lookup T x i false) t S K:=by rw[U1,hx];simp only[iM,hS,ay,hT,hi];refine⟨⟨trivial,hk,QT⟩,?_⟩;rw[hz];unfold bB at h;cases hm:m.f ns<;>rw[hm]at h<;>exact h
theorem BK(hS:S r k=some (ay enc sh m,g))(hT:td P T = .map kt et)(hx:ev t x = .map r k g)(h:K (.int .i64 m.n) S):vo P rg d (.call { callee:=.builtin .len,args:=#[x],argTypes:=#[T] }) t S K:=by rw[We,hx];simp only[jL,hS,ay,hT];exact⟨trivial,h⟩
theorem C8{v:V}:ay enc sh (QL m ns v) = .mp sh (bif ((m.f ns).map enc).isSome then m.n else m.n+1) (λq=>if q=ns then some (enc v)else (m.f q).map enc):=by
 unfold ay QL;congr 1;·cases m.f ns<;>rfl
 ·funext q;by_cases h:q=ns;·simp[h]
  ·simp[h]
theorem fY{v:V}(hS:S r k=some (ay enc sh m,g))(hT:td P T = .map kt et)(hk:eK P kt=some sh)(hy:ev t y = .map r k g)(hi:kp sh (ev t i)=some ns)(hx:ev t x=enc v)(hp:S.set r k (ay enc sh (QL m ns v)) g=S')(h:K .Qz S'):vo P rg d (.mapUpdate T y i x) t S K:=by rw[WJ,hy];have Sc:S r k=some (.mp sh m.n (λq=>(m.f q).map enc),g):=hS;simp only[fK,Sc,hT,hi];refine⟨⟨trivial,hk⟩,?_⟩;rw[hx,<-C8,hp];exact h
theorem pM{v:V}(hS:S r k=some (ay enc sh m,g))(hT:td P T = .map kt et)(hk:eK P kt=some sh)(hy:ev t y = .map r k g)(hi:kp sh (ev t i)=some ns)(hx:ev t x=enc v)(hp:S.set r k (ay enc sh (QL m ns v)) g=S')(h:K .Qz S'):vo P rg d (.insert T y i x) t S K:=by rw[WK,hy];have Sc:S r k=some (.mp sh m.n (λq=>(m.f q).map enc),g):=hS;simp only[fK,Sc,hT,hi];refine⟨⟨trivial,hk⟩,?_⟩;rw[hx,<-C8,hp];exact h
theorem fx{S0:St}{L:dG}{d:Nat}{hint:Option Operand}(hT:td P T = .map kt et)(hk:eK P kt=some sh)(hh:(match hint.map (ev t)with|none=>True|some (.int _ _)=>True|_=>False))(h:∀g,K (.map rg d g) (Qr S0 rg ((d,ay enc sh de,g)::L))):vo P rg (some d) (.makeMap T hint) t (Qr S0 rg L) K:=by
 rw[Wd];simp only[nL,hT,hk];refine⟨hh,λg=>?_⟩
 have:=h g;rw[<-bm (o:=ay enc sh de)]at this;exact this
theorem M4{k:IntKind}{a b c:Int}{z:Operand}{ts:Array TypeId}(hx:ev t x = .int k a)(hy:ev t y = .int k b)(hz:ev t z = .int k c)(h:K (.int k (min (min a b) c)) S):vo P rg d (.call { callee:=.builtin .min,args:=#[x,y,z],argTypes:=ts }) t S K:=by
 show(match ev t x,ev t y,ev t z with|.int k m,.int _ n,.int _ q=>K (.int k (if q<(if n<m then n else m)then q else (if n<m then n else m))) S|_,_,_=>False);rw[hx,hy,hz];have e1:(if b<a then b else a)=min a b:=by split<;>omega
 have e2:(if c<min a b then c else min a b)=min (min a b) c:=by split<;>omega
 simp only[e1,e2];exact h
theorem Iw{n len s:Nat}{e:TypeId}{z v:AV}{parts:List (Nat×Operand)}{ps:List (Nat×AV)}(hT:td P T = .array len e)(hz:QM P T=z)(QT:di P T=true)(hg:fR z=true)(hs:sz P e=s)(h0:0<s)(hsT:sz P T=n)(hp:parts.map (λp=>(p.1,ev t p.2))=ps)(hc:(ps.all λp=>p.2.Q_&&(beq p.2.cells.length s&&Nat.ble (p.1*s+p.2.cells.length) n))=true)(hv:ps.foldl (λv p=>TN v (p.1*s) p.2) z=v)(h:K v S):vo P rg d (.build T parts.toArray) t S K:=by
 rw[VF,nM,hT];simp only[];refine⟨by rw[QT,hz,hg,hs];simpa using h0,?_,?_⟩;·rw[hp];rw[List.all_eq_true]at hc ⊢;intro p hm;have:=hc p hm;simp only[Bool.and_eq_true,Nat.ble_eq]at this;obtain⟨a1,a2,a3⟩:=this;simp only[Bool.and_eq_true,beq_iff_eq,decide_eq_true_eq];exact⟨⟨a1,by rw[hs];exact Nat.eq_of_beq_eq_true a2⟩,by rw[hs,hsT];exact a3⟩
 ·rw[hp,hz,hs,hv];exact h
theorem MZ{T':TypeId}{ks:List IntKind}{as bs:List AV}{l l':List Int}(hk:eK P T=some (.many ks))(hx:ev t x = .agg as)(hy:ev t y = .agg bs)(h1:rz ks as=some l)(h2:rz ks bs=some l')(h:K (.bool (!decide (l=l'))) S):vo P rg d (.binOp .neq T x y T') t S K:=by rw[Q5,hx,hy];simp only[zH,hk,h1,h2];exact h
end
def AL(G:Qh)(a:(Nat×Nat×Nat)×(Nat×Nat×Nat)):Prop:=∃L,G.loc a.1.1 a.1.2.1 a.1.2.2=some L/\G.loc a.2.1 a.2.2.1 a.2.2.2=some L
theorem AL.mono{G G':Qh}{a:(Nat×Nat×Nat)×(Nat×Nat×Nat)}(h:AL G a)(hg:G.le G'):AL G' a:=let ⟨L,p,q⟩:=h;⟨L,hg.loc _ _ _ _ p,hg.loc _ _ _ _ q⟩
abbrev Zv:=List ((Nat×Nat×Nat)×(Nat×Nat×Nat))
abbrev Mv:=Nat×Nat×QW×Nat
def Wy(q:Nat)(γ:Nat->Nat):List Mv->Nat->cd
 | [],_=>[]
 | m::M,i=>(q,m.2.2.2,m.2.2.1,γ i)::Wy q γ M (i+1)
def WU(rg q:Nat)(γ:Nat->Nat):List Mv->Nat->Zv
 | [],_=>[]
 | m::M,i=>((rg,m.1,m.2.1),(q,m.2.2.2,γ i))::WU rg q γ M (i+1)
def KG(l:dG):List Mv->Prop
 | []=>True
 | m::M=>SK l m.1=some (m.2.2.1,m.2.1)/\(M.all λx=>!(beq x.1 m.1))=true/\KG l M
theorem C0{l:dG}:∀ {M:List Mv} {m:Mv},KG l M->m∈M->SK l m.1=some (m.2.2.1,m.2.1)
 | _::_,_,h,hm=>by
  rcases List.mem_cons.1 hm with rfl|hm;·exact h.1
  ·exact C0 h.2.2 hm
theorem Ay{q:Nat}{γ γ':Nat->Nat}:∀ {M:List Mv} {i:Nat},(∀j,i<=j->γ j=γ' j)->Wy q γ M i=Wy q γ' M i
 | [],_,_=>rfl
 | m::M,i,h=>by rw[Wy,Wy,h i (Nat.le_refl _),Ay (M:=M) (i:=i+1) (λj hj=>h j om)]
theorem Az{rg q:Nat}{γ γ':Nat->Nat}:∀ {M:List Mv} {i:Nat},(∀j,i<=j->γ j=γ' j)->WU rg q γ M i=WU rg q γ' M i
 | [],_,_=>rfl
 | m::M,i,h=>by rw[WU,WU,h i (Nat.le_refl _),Az (M:=M) (i:=i+1) (λj hj=>h j om)]
theorem FD{S:St}{rg q r k g:Nat}{γ:Nat->Nat}{o:QW}:∀ {M:List Mv} {i:Nat},Qk S (Wy q γ M i) r k=some (o,g)->S r k=some (o,g)\/∃m∈M,r=q/\k=m.2.2.2/\o=m.2.2.1/\((rg,m.1,m.2.1),(q,k,g))∈WU rg q γ M i
 | [],_,h=>.inl h
 | m::M,i,h=>by
  simp only[Wy,Qk,St.set]at h;split at h;·rename_i hc;cases h;exact .inr ⟨m,by simp,hc.1,hc.2,rfl,by rw[hc.2];simp[WU]⟩
  ·rcases FD (M:=M) h with h|⟨m',h1,h2,h3,h4,h5⟩;·exact .inl h
   ·exact .inr ⟨m',by simp[h1],h2,h3,h4,by rw[WU];exact List.mem_cons_of_mem _ h5⟩
theorem Rel.VM{G:Qh}{S:St}{w:World}{rg:Nat}{l:dG}(h:Rel G (Qr S rg l) w)(SY:∀k,S rg k=none)(q:Nat):∀(M:List Mv) (i:Nat),KG l M->∃(γ:Nat->Nat) (G':Qh),G.le G'/\G'.RM=G.RM/\Rel G' (Qk S (Wy q γ M i)) w/\∀a∈WU rg q γ M i,AL G' a
 | [],i,_=>⟨λ_=>0,G,Qh.le.refl G,rfl,h.sub (λr k x e=>by
   have QI:r≠rg:=by rintro rfl;rw[show Qk S (Wy q (λ_=>0) [] i)=S from rfl,SY]at e;cases e
   rw[qY QI];exact e),λa ha=>by simp[WU]at ha⟩
 | m::M,i,hM=>by
  obtain⟨γ,G1,YB,im1,VH,al1⟩:=Rel.VM h SY q M (i+1) hM.2.2;obtain⟨k0,g,o,k⟩:=m;obtain⟨g',hg'⟩:=VH.fresh q k;obtain⟨L,hL,Q',Vl⟩:=h.obj rg k0 o g (by rw[jD];exact hM.1);have hL1:=YB.loc _ _ _ _ hL;let G':Qh:={ G1 with loc:=λr2 k2 g2=>if r2=q/\k2=k/\g2=g' then some L else G1.loc r2 k2 g2 };have hle:G1.le G':=by
   refine⟨⟨rfl,λ_ h=>h,rfl⟩,λ_ _ _ e=>e,λr2 k2 g2 L2 e=>?_⟩;show(if r2=q/\k2=k/\g2=g' then some L else G1.loc r2 k2 g2)=some L2;split;·rename_i hc;obtain⟨rfl,rfl,rfl⟩:=hc;rw[hg']at e;cases e
   ·exact e
  have Vo:G'.loc q k g'=some L:=by show(if q=q/\k=k/\g'=g' then some L else _)=_;rw[if_pos ⟨rfl,rfl,rfl⟩]
  have hγ:∀j,i+1<=j->γ j=(λj=>if j=i then g' else γ j) j:=λj hj=>by simp only;rw[if_neg om]
  have Vn:∀ {r2 k2 o2 g2},S r2 k2=some (o2,g2)->Qr S rg l r2 k2=some (o2,g2)/\r2≠rg:=λ{r2 k2 o2 g2} e=>by
   have QI:r2≠rg:=by rintro rfl;rw[SY]at e;cases e
   exact⟨by rw[qY QI];exact e,QI⟩
  have apart:∀ {r2 k2 o2 g2 L2},Qk S (Wy q γ M (i+1)) r2 k2=some (o2,g2)->G1.loc r2 k2 g2=some L2->0<L.cap->0<L2.cap->L.block≠L2.block:=by
   intro r2 k2 o2 g2 L2 e l2 c1 c2;rcases FD (rg:=rg) e with e|⟨m',h1,rfl,rfl,rfl,h5⟩;·obtain⟨e1,QI⟩:=Vn e;obtain⟨L3,q1,_⟩:=h.obj _ _ _ _ e1;rw[YB.loc _ _ _ _ q1]at l2;cases l2;exact h.inj rg k0 o g r2 k2 o2 g2 _ _ (by rw[jD];exact hM.1) e1 hL q1 c1 c2 (λhc=>QI hc.1.symm)
   ·obtain⟨L3,a1,a2⟩:=al1 _ h5;simp only at a1 a2;rw[a2]at l2;cases l2;have Uo:=C0 hM.2.2 h1;obtain⟨L4,q1,_⟩:=h.obj rg m'.1 m'.2.2.1 m'.2.1 (by rw[jD];exact Uo);rw[YB.loc _ _ _ _ q1]at a1;cases a1;have hk:m'.1≠k0:=by have:=List.all_eq_true.1 hM.2.1 m' h1;intro hc;rw[hc]at this;simp at this
    exact h.inj rg k0 o g rg m'.1 m'.2.2.1 m'.2.1 _ _ (by rw[jD];exact hM.1) (by rw[jD];exact Uo) hL q1 c1 c2 (λhc=>hk hc.2.symm)
  refine⟨λj=>if j=i then g' else γ j,G',YB.trans hle,im1,?_,?_⟩
  ·show Rel G' ((Qk S (Wy q _ M (i+1))).set q k o (if i=i then g' else γ i)) w;rw[<-Ay hγ,if_pos rfl];have src:∀ {r2 k2 o2 g2 L2},((Qk S (Wy q γ M (i+1))).set q k o g') r2 k2=some (o2,g2)->G'.loc r2 k2 g2=some L2->(r2=q/\k2=k/\L2=L)\/(¬(r2=q/\k2=k)/\Qk S (Wy q γ M (i+1)) r2 k2=some (o2,g2)/\G1.loc r2 k2 g2=some L2):=by
    intro r2 k2 o2 g2 L2 e l2;simp only[St.set]at e;split at e;·rename_i hc;obtain⟨rfl,rfl⟩:=hc;cases e;rw[Vo]at l2;exact .inl ⟨rfl,rfl,(Option.some.inj l2).symm⟩
    ·rename_i hc;obtain⟨L3,q1,_⟩:=VH.obj _ _ _ _ e;have:=hle.loc _ _ _ _ q1;rw[this]at l2;cases l2;exact .inr ⟨hc,e,q1⟩
   refine⟨VH.below,VH.RM,?_,?_,?_,?_⟩
   ·intro r2 k2 o2 g2 e;simp only[St.set]at e;split at e
    ·rename_i hc;obtain⟨rfl,rfl⟩:=hc;cases e;refine⟨L,Vo,Q'.keep (YB.trans hle) (λ_=>rfl),λhc=>?_⟩
     have h1:=Vl hc;exact⟨by rw[show G'.init=G1.init from rfl,YB.init.1];exact h1.1,λx=>by rw[show G'.RM=G1.RM from rfl,im1];exact h1.2 x⟩
    ·obtain⟨L2,q1,q2,q3⟩:=VH.obj _ _ _ _ e;exact⟨L2,hle.loc _ _ _ _ q1,q2.keep hle (λ_=>rfl),q3⟩
   ·intro r1 k1 o1 g1 r2 k2 o2 g2 L1 L2 e1 e2 l1 l2 c1 c2 QI;rcases src e1 l1 with⟨rfl,rfl,rfl⟩|⟨W1,f1,m1⟩
    ·rcases src e2 l2 with⟨rfl,rfl,rfl⟩|⟨TL,f2,m2⟩;·exact absurd ⟨rfl,rfl⟩ QI
     ·exact apart f2 m2 c1 c2
    ·rcases src e2 l2 with⟨rfl,rfl,rfl⟩|⟨TL,f2,m2⟩;·exact(apart f1 m1 c2 c1).symm
     ·exact VH.inj _ _ _ _ _ _ _ _ _ _ f1 f2 m1 m2 c1 c2 QI
   ·obtain⟨N,hN⟩:=VH.fin;refine⟨max N (q+1),λr2 hr k2=>?_⟩;simp only[St.set];rw[if_neg (λhc=>om)]
    exact hN r2 om k2
   ·intro r2 k2;obtain⟨N,hN⟩:=VH.U0 r2 k2;refine⟨max N (g'+1),λg2 hg2=>?_⟩;show(if r2=q/\k2=k/\g2=g' then some L else G1.loc r2 k2 g2)=none;rw[if_neg (λhc=>om)]
    exact hN g2 om
  ·intro a ha;rw[WU]at ha;rcases List.mem_cons.1 ha with rfl|ha;·exact⟨L,hle.loc _ _ _ _ hL1,by simp only[if_pos];exact Vo⟩
   ·rw[<-Az hγ]at ha;exact(al1 a ha).mono hle
def RN(A:Zv)(c c':AV):Prop:=∀(G:Qh) (x:Value),(∀a∈A,AL G a)->VR G c x->VR G c' x
variable{A:Zv}
theorem D1{c:AV}:RN A c c:=λ_ _ _ h=>h
theorem H'{r' k' g' j off:Nat}(i:Nat)(h:A[i]? = some ((r,k,g),(r',k',g'))):RN A (.ptr r k g j off) (.ptr r' k' g' j off):=λG x hA hv=>by
 obtain⟨L,a1,a2⟩:=hA _ (List.mem_of_getElem? h);cases hv with
 | ptr _ _ _ _ _ L' h1=>simp only at a1;rw[a1]at h1;cases h1;exact .ptr _ _ _ _ _ _ a2
theorem CM{r' k' g':Nat}(i:Nat)(h:A[i]? = some ((r,k,g),(r',k',g'))):RN A (.map r k g) (.map r' k' g'):=λG x hA hv=>by
 obtain⟨L,a1,a2⟩:=hA _ (List.mem_of_getElem? h);cases hv with
 | map _ _ _ L' h1=>simp only at a1;rw[a1]at h1;cases h1;exact .map _ _ _ _ a2
variable{kk:Nat}
theorem CL{r' k' g' off n:Nat}(i:Nat)(h:A[i]? = some ((r,k,g),(r',k',g'))):RN A (.sl kk r k g off n) (.sl kk r' k' g' off n):=λG x hA hv=>by
 obtain⟨L,a1,a2⟩:=hA _ (List.mem_of_getElem? h);cases hv with
 | sl _ _ _ _ _ _ a L' h1 h2 h3 h4 h5=>simp only at a1;rw[a1]at h1;cases h1;exact .sl _ _ _ _ _ _ _ _ a2 h2 h3 h4 h5
def Xt(A:Zv):List AV->List AV->Prop
 | [],[]=>True
 | c::l,c'::l'=>RN A c c'/\Xt A l l'
 | _,_=>False
theorem CN:Xt A [] []:=trivial
theorem mq{c c':AV}{l l':List AV}(h:RN A c c')(h':Xt A l l'):Xt A (c::l) (c'::l'):=⟨h,h'⟩
theorem Xt.len{A:Zv}:∀ {l l':List AV},Xt A l l'->l.length=l'.length
 | [],[],_=>rfl
 | _::_,_::_,h=>by simp[Xt.len h.2]
 | [],_::_,h=>h.elim
 | _::_,[],h=>h.elim
theorem Xt.at{A:Zv}:∀ {l l':List AV} {i:Nat} {c c':AV},Xt A l l'->l[i]? = some c->l'[i]? = some c'->RN A c c'
 | _::_,_::_,0,_,_,h,h1,h2=>by simp at h1 h2;subst h1;subst h2;exact h.1
 | _::_,_::_,i+1,_,_,h,h1,h2=>Xt.at h.2 (by simpa using h1) (by simpa using h2)
 | [],_,_,_,_,_,h1,_=>by simp at h1
 | _::_,[],_,_,_,h,_,_=>h.elim
theorem D0{l l':List AV}(h:Xt A l l'):RN A (.tuple l) (.tuple l'):=λG x hA hv=>by
 cases hv with
 | tuple _ xs hs hc=>exact .tuple _ _ (hs.trans h.len) (λi h1 h2=>h.at (List.getElem?_eq_getElem (by rw[h.len];exact h1)) (List.getElem?_eq_getElem h1) G _ hA (hc i _ h2))
def RO(A:Zv)(o o':QW):Prop:=∀(G:Qh) (w:World) (L:Loc),(∀a∈A,AL G a)->jU G w L o->jU G w L o'
theorem rh:RO A o o:=λ_ _ _ _ h=>h
theorem H9{a b:AV}(h:Xt A a.cells b.cells):RO A (.arr kk [a]) (.arr kk [b]):=λG w L hA ho=>by
 obtain⟨h1,h2,h3,Zo,h4,h5⟩:=ho;refine⟨h1,h2,h3,Zo,λi hi=>?_,λhc=>?_⟩
 ·have:i=0:=by simpa using hi
  subst this;have:=h4 0 Qy;simp only[getElem_cons_zero]at this ⊢;rw[<-h.len];exact this
 ·obtain⟨row,a1,a2,a3⟩:=h5 hc;refine⟨row,a1,a2,λi hi j hj=>?_⟩;have:i=0:=by simpa using hi
  subst this;simp only[getElem_cons_zero]at hj ⊢;obtain⟨z,z1,z2⟩:=a3 0 Qy j (by simp only[getElem_cons_zero];rw[h.len];exact hj);simp only[getElem_cons_zero]at z2;exact⟨z,z1,h.at (List.getElem?_eq_getElem (by rw[h.len];exact hj)) (List.getElem?_eq_getElem hj) G z hA z2⟩
def ROX(A:Zv):cd->cd->Prop
 | [],[]=>True
 | x::X,y::Y=>(x.1=y.1/\x.2.1=y.2.1/\x.2.2.2=y.2.2.2)/\RO A x.2.2.1 y.2.2.1/\ROX A X Y
 | _,_=>False
theorem H7:ROX A [] []:=trivial
theorem pg{o':QW}{X Y:cd}(h:RO A o o')(h':ROX A X Y):ROX A ((r,k,o,g)::X) ((r,k,o',g)::Y):=⟨⟨rfl,rfl,rfl⟩,h,h'⟩
theorem Fj{A:Zv}{S:St}{r k g:Nat}{o':QW}:∀ {X Y:cd},ROX A X Y->Qk S Y r k=some (o',g)->∃o,Qk S X r k=some (o,g)/\RO A o o'
 | [],[],_,h=>⟨o',h,rh⟩
 | [],_::_,h,_=>h.elim
 | _::_,[],h,_=>h.elim
 | (r1,k1,o1,g1)::X,(r2,k2,o2,g2)::Y,h,e=>by
  obtain⟨⟨a,b,c⟩,ho,h'⟩:=h;simp only at a b c ho;subst a;subst b;subst c;simp only[Qk,St.set]at e ⊢;split at e;·rename_i hc;cases e;exact⟨o1,by rw[if_pos hc],ho⟩
  ·rename_i hc;obtain⟨o,h1,h2⟩:=Fj h' e;exact⟨o,by rw[if_neg hc];exact h1,h2⟩
theorem oq{R:AV->St->Prop}{v:AV}{rg:Nat}{l:dG}(q:Nat)(SY:∀k,S rg k=none)(M:List Mv)(hM:KG l M)(v':(Nat->Nat)->AV)(X:(Nat->Nat)->cd)(hX:∀γ,ROX (WU rg q γ M 0) (Wy q γ M 0) (X γ))(hv:∀γ,RN (WU rg q γ M 0) v (v' γ))(h:∀γ,R (v' γ) (Qk S (X γ))):dz R v (Qr S rg l):=λG w x hr hx=>by
 obtain⟨γ,G',a1,_,a3,a4⟩:=hr.VM SY q M 0 hM;refine⟨_,_,G',h γ,a1,a3.XF λr k o' g e=>?_,hv γ G' x a4 (hx.mono a1)⟩;obtain⟨o,e1,e2⟩:=Fj (hX γ) e;refine⟨o,e1,λL hL=>?_⟩;obtain⟨L',R5,Q',_⟩:=a3.obj _ _ _ _ e1;obtain rfl:L'=L:=by rw[hL]at R5;exact(Option.some.inj R5).symm
 exact e2 G' w L' a4 Q'
end Go.Gg
