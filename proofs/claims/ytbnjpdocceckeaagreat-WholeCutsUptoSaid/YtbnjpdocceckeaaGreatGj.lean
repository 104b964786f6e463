/- An own logic over the kit's weakest preconditions, part En: straight walks by search. Conditions: none. -/
import Derived.Test.YtbnjpdocceckeaaGreatGc
import Derived.Test.YtbnjpdocceckeaaGreatGd
set_option linter.all false
open Nat (beq ble)
namespace Go.Gg
abbrev EL:=List (Nat×AV)
@[reducible] def Vb:EL->Env
 | [],_=>.Qz
 | (k,v)::l,i=>match beq i k with|true=>v|false=>Vb l i
@[reducible] def enu:Nat->List AV->EL
 | _,[]=>[]
 | k,a::l=>(k,a)::enu (k+1) l
variable{v:AV}{l:EL}{i k:Nat}
theorem yB:Vb ((k,v)::l) i=if i=k then v else Vb l i:=by
 show(match beq i k with|true=>v|false=>Vb l i)=_;by_cases h:i=k;·subst h;rw[Nat.beq_refl,if_pos rfl]
 ·rw[if_neg h,(Bool.eq_false_iff.2 λhh=>h (Nat.eq_of_beq_eq_true hh):beq i k=false)]
theorem FF:∀l:EL,aC l=Vb l
 | []=>rfl
 | (k,v)::l=>by
  funext i;rw[yB,<-FF l];show(bif beq i k then v else aC l i)=_;by_cases h:i=k;·subst h;rw[Nat.beq_refl,if_pos rfl];rfl
  ·rw[if_neg h,(Bool.eq_false_iff.2 λhh=>h (Nat.eq_of_beq_eq_true hh):beq i k=false)];rfl
def R2(l:EL):Env:=λi=>Vb l i
variable{d:Nat}
theorem E4:SR (R2 l) d v=R2 ((d,v)::l):=by funext i;show _=Vb ((d,v)::l) i;rw[yB];rfl
theorem o_:dh (R2 l) (some d) v=R2 ((d,v)::l):=E4
theorem Nz(vs:List AV):args vs=R2 (enu 0 vs):=by
 have h:∀(vs:List AV) k i,Vb (enu k vs) (k+i)=vs.getD i .Qz:=λvs=>by
  induction vs with
  | nil=>intro k i;rfl
  | cons a vs ih=>
   intro k i;show Vb ((k,a)::enu (k+1) vs) (k+i)=_;rw[yB];cases i with
   | zero=>rw[if_pos om];rfl
   | succ i=>rw[if_neg om,show k+(i+1)=k+1+i by omega,ih];simp
 funext i;have:=h vs 0 i;rw[Nat.zero_add]at this;exact this.symm
class Ui (t:Env) (l:outParam EL):Prop where
 e:t=R2 l
instance{l:EL}:Ui (R2 l) l:=⟨rfl⟩
instance{l:EL}:Ui (aC l) l:=⟨(FF l).trans rfl⟩
instance{vs:List AV}:Ui (args vs) (enu 0 vs):=⟨Nz vs⟩
instance{t:Env}{l:EL}{d:Nat}{v:AV}[h:Ui t l]:Ui (dh t (some d) v) ((d,v)::l):=⟨by rw[h.e,o_]⟩
instance{t:Env}{l:EL}{v:AV}[h:Ui t l]:Ui (dh t none v) l:=⟨h.e⟩
instance{t:Env}{l:EL}{d:Nat}{v:AV}[h:Ui t l]:Ui (SR t d v) ((d,v)::l):=⟨by rw[h.e,E4]⟩
class TI (P:Program) (T:TypeId) (y:outParam TD) (s:outParam Nat) (a:outParam Bool):Prop where
 td:td P T=y
 sz:sz P T=s
 ag:bF P T=a
class ZI (P:Program) (T:TypeId) (z:outParam AV):Prop where
 z:QM P T=z
 ok:di P T=true
class FI (P:Program) (T f:Nat) (off et:outParam Nat):Prop where
 fa:FA P T f off et
class Rl (u:AV) (off:Nat) (v:outParam AV):Prop where
 e:u.cells.getD off .Qz=v
instance{a:AV}{l:List AV}:Rl (.agg (a::l)) 0 a:=⟨rfl⟩
instance{a v:AV}{l:List AV}{n:Nat}[h:Rl (.agg l) n v]:Rl (.agg (a::l)) (n+1) v:=⟨h.e⟩
class YN (u:AV) (off:Nat) (w:AV) (v:outParam AV):Prop where
 e:w.cells=[w]->TN u off w=v
instance{a w:AV}{l:List AV}:YN (.agg (a::l)) 0 w (.agg (w::l)):=⟨λh=>by simp[TN,h]⟩
instance{a w:AV}{l m:List AV}{n:Nat}[h:YN (.agg l) n w (.agg m)]:YN (.agg (a::l)) (n+1) w (.agg (a::m)):=⟨λhw=>by
 have:=h.e hw;simp only[TN,hw,List.length_singleton,AV.agg.injEq]at this ⊢;rw[<-this,show n+1+1=(n+1)+1 from rfl];simp⟩
variable{u w:AV}{α:Type}{enc:α->AV}{kk g off r gj j:Nat}{rs:List ResultVar}{want b b':Bool}{S':St}{KL:List AV->Prop}{R:AV->St->Prop}{log:Log}{A:Prop}
section
variable{P:Program}{n rg:Nat}{t:Env}{l:EL}{S S0:St}{L:dG}{ops rest:List Oper}{K:Env->St->Prop}{KA:AV->St->Prop}{op:Op}{ty:TypeId}{pos:String}{after:Array Edge}{v:AV}{x y c i:Operand}{T T' e:TypeId}{k:IntKind}{m q:Int}{B:Prop}{d:Nat}{dd:Option Nat}
theorem nWl[h:Ui t l](k:Wl P n ops rest K (R2 l) S):Wl P n ops rest K t S:=h.e▸k
theorem nVd{us:Nat->S9}[h:Ui t l](k:RK P rg us ops rest j log (R2 l) S K):RK P rg us ops rest j log t S K:=h.e▸k
theorem voI(k:vo P rg dd op t S KA):vo P rg dd op t S KA:=k
theorem nVc{c:Code}{Q:AK}[h:Ui t l](k:Vc P n c Q (R2 l) S):Vc P n c Q t S:=h.e▸k
theorem eC(rg:Nat)(h:vo P rg (some d) op (R2 l) S (λv S'=>Wl P n ops rest K (R2 ((d,v)::l)) S')):Wl P n ops (⟨some d,op,ty,pos,after,none⟩::rest) K (R2 l) S:=by refine Wl.cons rg ?_;simp only[o_];exact h
theorem eC0(rg:Nat)(h:vo P rg none op (R2 l) S (λ_ S'=>Wl P n ops rest K (R2 l) S')):Wl P n ops (⟨none,op,ty,pos,after,none⟩::rest) K (R2 l) S:=Wl.cons rg h
variable{us:Nat->S9}{jj:Nat}{log:Log}{E:qz}
theorem eDP(XV:zX (us jj) op=false)(hE:nw rg d (us jj) op (ev (R2 l))=([],[]))(h:vo P rg (some d) op (R2 l) S (λv S'=>RK P rg us ops rest (jj+1) log (R2 ((d,v)::l)) S' K)):RK P rg us ops (⟨some d,op,ty,pos,after,none⟩::rest) jj log (R2 l) S K:=by refine dP XV hE ?_;simp only[o_];exact h
theorem eDL(XV:zX (us jj) op=false)(hE:nw rg d (us jj) op (ev (R2 l))=E)(QI:E≠([],[]))(Xn:cf ops log jj E)(h:vo P rg (some d) op (R2 l) S (λv S'=>RK P rg us ops rest (jj+1) ((jj,E)::log) (R2 ((d,v)::l)) S' K)):RK P rg us ops (⟨some d,op,ty,pos,after,none⟩::rest) jj log (R2 l) S K:=by refine dL XV hE QI Xn ?_;simp only[o_];exact h
theorem PV(XV:zX (us jj) op=false)(hE:nw rg 0 (us jj) op (ev (R2 l))=([],[]))(h:vo P rg none op (R2 l) S (λ_ S'=>RK P rg us ops rest (jj+1) log (R2 l) S' K)):RK P rg us ops (⟨none,op,ty,pos,after,none⟩::rest) jj log (R2 l) S K:=dP XV hE h
theorem PW(XV:zX (us jj) op=false)(hE:nw rg 0 (us jj) op (ev (R2 l))=E)(QI:E≠([],[]))(Xn:cf ops log jj E)(h:vo P rg none op (R2 l) S (λ_ S'=>RK P rg us ops rest (jj+1) ((jj,E)::log) (R2 l) S' K)):RK P rg us ops (⟨none,op,ty,pos,after,none⟩::rest) jj log (R2 l) S K:=dL XV hE QI Xn h
theorem fpL{u:S9}{e:Operand->AV}{k i:Nat}(hx:e x = .ptr r k g i off):nw rg d u (.load T x) e=([(r,k)],[]):=by show((match e x with|.ptr r k _ _ _=>[(r,k)]|_=>[]),_)=_;rw[hx];rfl
theorem fpS{u:S9}{e:Operand->AV}{k i:Nat}(hx:e x = .ptr r k g i off):nw rg d u (.store T x y) e=([],[(r,k)]):=by show(_,Option.toList (match e x with|.ptr r k _ _ _=>some (r,k)|_=>none))=_;rw[hx];rfl
theorem PY(hd:(ops[gj]?).bind (·.dst)=some g)(hb:Vb l g = .bool b)(hv:b=want)(h:RK P rg us ops (⟨dd,op,ty,pos,after,none⟩::rest) jj log (R2 ((g,.bool want)::l)) S K):RK P rg us ops (⟨dd,op,ty,pos,after,some (gj,want)⟩::rest) jj log (R2 l) S K:=Zs hd hb hv (E4▸h)
theorem PZ(hd:(ops[gj]?).bind (·.dst)=some g)(hb:Vb l g = .bool b)(hv:b=b')(hn:b' = !want)(h:RK P rg us ops rest (jj+1) log (R2 ((d,.tuple [])::(g,.bool !want)::l)) S K):RK P rg us ops (⟨some d,op,ty,pos,after,some (gj,want)⟩::rest) jj log (R2 l) S K:=dGF hd hb hv hn (by rw[E4,o_];exact h)
theorem PX(hd:(ops[gj]?).bind (·.dst)=some g)(hb:Vb l g = .tuple [])(h:RK P rg us ops rest (jj+1) log (R2 ((d,.tuple [])::l)) S K):RK P rg us ops (⟨some d,op,ty,pos,after,some (gj,want)⟩::rest) jj log (R2 l) S K:=dGU hd hb (o_▸h)
theorem evT{i:Nat}(h:Vb l i=v):ev (R2 l) (.tmp i)=v:=h
theorem evI{m:Int}:ev t (.const (.int k m)) = .int k m:=rfl
theorem evN:ev t (.const .nilIface) = .Qg:=rfl
theorem evL:ev t (.const (.slice none 0 0)) = .nil:=rfl
theorem evP:ev t (.const (.pointer none)) = .Sm:=rfl
theorem evM:ev t (.const (.map none)) = .Rn:=rfl
theorem evS{s:ByteArray}:ev t (.const (.string s)) = .str s:=rfl
theorem evJ{m:Int}:ev t (.const (.iface T (.int k m))) = .iface T (.int k m):=rfl
theorem evF{f:FuncId}:ev t (.func f) = .fn (.func f) [] []:=rfl
theorem evB:ev t (.const (.bool b)) = .bool b:=rfl
theorem eFa{f et k' i VJ o':Nat}(h:FA P T f off et)(hx:ev t x = .ptr r k' g i VJ)(ho:VJ+off=o')(k:KA (.ptr r k' g i o') S):vo P rg dd (.fieldAddr T x f) t S KA:=yN h hx (ho.symm▸k)
theorem PP{k:Nat}(hx:ev t x = .ptr r k g 0 off)(hS:S r k=some (.arr kk [u],g))(hs:sz P T=1)(ha:bF P T=false)(hl:ble (off+1) kk=true)(hv:u.cells.getD off .Qz=v)(h:KA v S):vo P rg dd (.load T x) t S KA:=gt hS hs ha hx hl hv h
theorem OX{k:Nat}(hx:ev t x = .ptr r k g 0 0)(hS:S r k=some (.arr 1 [u],g))(hs:sz P T=1)(ha:bF P T=false)(hc:u.cells=[u])(h:KA u S):vo P rg dd (.load T x) t S KA:=gt hS hs ha hx rfl (by rw[hc];rfl) h
theorem OY{k:Nat}(hx:ev t x = .ptr r k g 0 0)(hS:S r k=some (.arr kk [u],g))(ha:bF P T=true)(hs:sz P T=kk)(h0:0<kk)(hv:AV.agg ((u.cells.drop 0).take kk)=u)(h:KA u S):vo P rg dd (.load T x) t S KA:=br hS hs h0 ha hx Qy hv h
theorem P4(h0:Qe (m+q)/\B)(hx:ev t x = .int .i64 m)(hy:ev t y = .int .i64 q)(h:Qe (m+q)->B->KA (.int .i64 (m+q)) S):vo P rg dd (.binOp .add T x y T') t S KA:=i_ hx hy h0.1 (h h0.1 h0.2)
theorem PF(h0:Qe (m-q)/\B)(hx:ev t x = .int .i64 m)(hy:ev t y = .int .i64 q)(h:Qe (m-q)->B->KA (.int .i64 (m-q)) S):vo P rg dd (.binOp .sub T x y T') t S KA:=cL hx hy h0.1 (h h0.1 h0.2)
theorem PL(h0:Qe (m*q)/\B)(hx:ev t x = .int .i64 m)(hy:ev t y = .int .i64 q)(h:Qe (m*q)->B->KA (.int .i64 (m*q)) S):vo P rg dd (.binOp .mul T x y T') t S KA:=Iq hx hy h0.1 (h h0.1 h0.2)
theorem PU[Inhabited α]{l:List α}(h0:(0<=m/\m<l.length)/\B)(hT:td P T = .slice e)(hx:ev t x=eL enc l)(hi:ev t i = .int k m)(hs:sz P e=kk)(Xm:0<kk)(hk:∀z,(enc z).cells.length=kk)(h:(0<=m/\m<l.length)->B->KA (.Q2 (enc (P9 l m)).cells) S):vo P rg dd (.indexAddr T x i) t S KA:=ek hT hs Xm hk hx hi h0.1 (h h0.1 h0.2)
theorem PT{k' c:Nat}(h0:(0<=m/\m<(c:Int))/\B)(hT:td P T = .slice e)(hx:ev t x = .sl kk r k' g 0 c)(hi:ev t i = .int k m)(hs:sz P e=kk)(Xm:0<kk)(h:(0<=m/\m<(c:Int))->B->KA (.ptr r k' g m.toNat 0) S):vo P rg dd (.indexAddr T x i) t S KA:=aV hT hs Xm hx hi h0.1 (h h0.1 h0.2)
theorem PN(hs:sz P T=1)(ha:bF P T=false)(hx:ev t x = .Q2 u.cells)(hl:ble 1 u.cells.length=true)(hv:Rl u 0 v)(h:KA v S):vo P rg dd (.load T x) t S KA:=ru hs ha hx hl hv.e h
theorem OV{a:α}(hs:sz P T=1)(ha:bF P T=false)(hx:ev t x = .Q2 (enc a).cells)(hl:(enc a).cells=[enc a])(h:KA (enc a) S):vo P rg dd (.load T x) t S KA:=ru hs ha hx (by rw[hl];rfl) (by rw[hl];rfl) h
theorem OU(ha:bF P T=true)(hs:sz P T=kk)(h0:0<kk)(hx:ev t x = .Q2 u.cells)(hl:ble kk u.cells.length=true)(hv:AV.agg ((u.cells.drop 0).take kk)=u)(h:KA u S):vo P rg dd (.load T x) t S KA:=rt hs h0 ha hx hl hv h
theorem PM{l:List α}{k:Nat}(hs:sz P T=1)(ha:bF P T=false)(hx:ev t x = .ptr r k g m.toNat 0)(hS:S r k=some (.arr kk (l.map enc),g))(ih:Inhabited α)(hi:m.toNat<l.length)(hl:ble (0+1) kk=true)(hv:(enc (P9 l m)).cells=[enc (P9 l m)])(h:KA (enc (P9 l m)) S):vo P rg dd (.load T x) t S KA:=rq hS hs ha hx hi hl (by rw[hv];rfl) h
theorem OS{l:List α}{k:Nat}(hs:sz P T=1)(ha:bF P T=false)(hx:ev t x = .ptr r k g m.toNat off)(hS:S r k=some (.arr kk (l.map enc),g))(ih:Inhabited α)(hi:m.toNat<l.length)(hl:ble (off+1) kk=true)(hv:Rl (enc (P9 l m)) off v)(h:KA v S):vo P rg dd (.load T x) t S KA:=rq hS hs ha hx hi hl hv.e h
theorem OT{l:List α}{k:Nat}(ha:bF P T=true)(hs:sz P T=kk)(h0:0<kk)(hx:ev t x = .ptr r k g m.toNat 0)(hS:S r k=some (.arr kk (l.map enc),g))(ih:Inhabited α)(hi:m.toNat<l.length)(hl:ble (0+kk) kk=true)(hv:AV.agg (((enc (P9 l m)).cells.drop 0).take kk)=enc (P9 l m))(h:KA (enc (P9 l m)) S):vo P rg dd (.load T x) t S KA:=CV hS hs h0 ha hx hi hl hv h
theorem P0(hx:ev t x=v)(hs:v.Q_=true)(hk:v.cells.length=kk)(h0:0<kk)(h:∀g,KA (.ptr rg d g 0 0) (Qr S0 rg ((d,.arr kk [v],g)::L))):vo P rg (some d) (.box T x) t (Qr S0 rg L) KA:=LU hx hs hk h0 h
theorem PO(hs:sz P T=1)(ha:bF P T=false)(hx:ev t x = .Q2 (u.cells.drop off))(hl:ble 1 (u.cells.drop off).length=true)(hv:Rl u off v)(h:KA v S):vo P rg dd (.load T x) t S KA:=ru hs ha hx hl (by have:=hv.e;simpa[List.getD_eq_getElem?_getD]using this) h
theorem eFd{f et:Nat}(h:FA P T f off et)(hx:ev t x = .Q2 u.cells)(hl:ble off u.cells.length=true)(k:KA (.Q2 (u.cells.drop off)) S):vo P rg dd (.fieldAddr T x f) t S KA:=faZ h hx hl k
def PE:TD->Bool
 | .iface|.other=>true
 | _=>false
theorem PS{y:TD}{s:Nat}{a:Bool}[hi:TI P T y s a](hy:PE y=false)(hx:ev t x=v)(h:KA (.iface T v) S):vo P rg dd (.makeInterface T x) t S KA:=Kx (by rw[hi.td];cases y<;>first|trivial|cases hy) hx h
theorem PG{k Ti:Nat}(ha:ev t c = .ptr r k g 0 0)(hx:ev t x=w)(hS:S r k=some (.arr kk [u],g))(hs:sz P T=Ti)(h0:0<Ti)(hl:beq w.cells.length Ti=true)(hc:(ble (0+Ti) kk&&fo w.cells)=true)(hv:TN u 0 w=w)(Rr:S.set r k (.arr kk [w]) g=S')(h:KA .Qz S'):vo P rg dd (.store T c x) t S KA:=tT hS hs h0 ha hx hl hc hv Rr h
theorem PI{k:Nat}(ha:ev t c = .ptr r k g 0 off)(hx:ev t x=w)(hS:S r k=some (.arr kk [u],g))(hs:sz P T=1)(hl:w.cells=[w])(hc:(ble (off+1) kk&&fo [w])=true)(hv:YN u off w v)(Rr:S.set r k (.arr kk [v]) g=S')(h:KA .Qz S'):vo P rg dd (.store T c x) t S KA:=tT hS hs (by decide) ha hx (by rw[hl];rfl) (by rw[hl];exact hc) (hv.e hl) Rr h
theorem PH{l:List α}{x':α}{k:Nat}(ha:ev t c = .ptr r k g m.toNat 0)(hS:S r k=some (.arr kk (l.map enc),g))(hx:ev t x=enc x')(hs:sz P T=kk)(h0:0<kk)(hk:∀z,(enc z).cells.length=kk)(hi:m.toNat<l.length)(hc:fo (enc x').cells=true)(Uf:∀z,fR (enc z)=false)(Rr:S.set r k (.arr kk ((Qt l m x').map enc)) g=S')(h:KA .Qz S'):vo P rg dd (.store T c x) t S KA:=Gu hS hs h0 hk ha hx hi hc (Uf _) Rr h Uf
theorem eRq(h:nK P rs t S (λvs=>dz R (Hp vs) S)):BB P rs R t S:=h
theorem PJ{a k:Nat}(hx:t a = .ptr r k g 0 0)(hS:S r k=some (.arr kk [u],g))(ha:bF P T=true)(hs:sz P T=kk)(h0:0<kk)(hv:AV.agg ((u.cells.drop 0).take kk)=u)(h:nK P rs t S (λvs=>KL (u::vs))):nK P (.cell a T::rs) t S KL:=bn hS hs h0 ha hx Qy hv h
theorem PK{a k:Nat}(hx:t a = .ptr r k g 0 0)(hS:S r k=some (.arr 1 [u],g))(hs:sz P T=1)(ha:bF P T=false)(hv:u.cells=[u])(h:nK P rs t S (λvs=>KL (u::vs))):nK P (.cell a T::rs) t S KL:=pD hS hs ha hx rfl (by rw[hv];rfl) h
theorem PQ(hT:td P T = .iface)(hx:ev t x = .Qg)(hy:ev t y = .Qg)(hc:(iU x||iU y)=true)(h:KA (.bool false) S):vo P rg dd (.binOp .neq T x y T') t S KA:=Fw (E:=0) (o:=none) hT hx hy hc h
theorem PR(hT:td P T = .iface)(hx:ev t x = .Qg)(hy:ev t y = .Qg)(hc:(iU x||iU y)=true)(h:KA (.bool true) S):vo P rg dd (.binOp .eql T x y T') t S KA:=Fx (E:=0) (o:=none) hT hx hy hc h
variable{j g:Nat}
theorem eGT(hd:(ops[j]?).bind (·.dst)=some g)(hb:Vb l g = .bool b)(hv:b=want)(h1:Wl P n ops (⟨dd,op,ty,pos,after,none⟩::rest) K (R2 l) S):Wl P n ops (⟨dd,op,ty,pos,after,some (j,want)⟩::rest) K (R2 l) S:=gTZ hd hb hv h1
theorem eGF(hd:(ops[j]?).bind (·.dst)=some g)(hb:Vb l g = .bool b)(hv:b=b')(hn:b' = !want)(h1:Wl P n ops rest K (R2 ((d,.tuple [])::l)) S):Wl P n ops (⟨some d,op,ty,pos,after,some (j,want)⟩::rest) K (R2 l) S:=gFZ hd hb hv hn (o_▸h1)
theorem eGU(hd:(ops[j]?).bind (·.dst)=some g)(hb:Vb l g = .tuple [])(h1:Wl P n ops rest K (R2 ((d,.tuple [])::l)) S):Wl P n ops (⟨some d,op,ty,pos,after,some (j,want)⟩::rest) K (R2 l) S:=gUZ hd hb (o_▸h1)
theorem egt(h:af b A B)(hd:(ops[j]?).bind (·.dst)=some g)(hb:Vb l g = .bool b)(h1:b=true->A->Wl P n ops (⟨some d,op,ty,pos,after,none⟩::rest) K (R2 l) S)(h2:b=false->B->Wl P n ops rest K (R2 ((d,.tuple [])::l)) S) :Wl P n ops (⟨some d,op,ty,pos,after,some (j,true)⟩::rest) K (R2 l) S:=Te h hd hb h1 (o_▸h2)
theorem egf(h:af b A B)(hd:(ops[j]?).bind (·.dst)=some g)(hb:Vb l g = .bool b)(h1:b=false->B->Wl P n ops (⟨some d,op,ty,pos,after,none⟩::rest) K (R2 l) S)(h2:b=true->A->Wl P n ops rest K (R2 ((d,.tuple [])::l)) S) :Wl P n ops (⟨some d,op,ty,pos,after,some (j,false)⟩::rest) K (R2 l) S:=T8 h hd hb h1 (o_▸h2)
end
theorem eE{a b:AV}(h:a=b:=by
 first
  | ((with_reducible apply evT);focus ((with_reducible conv=>lhs;whnf);first|done|exact rfl))
  | exact evI|exact evB|exact evN|exact evL|exact evF|exact evJ|exact evP|exact evM|exact evS):a=b:=h
theorem eN{a b:Nat}(h:a=b:=by first|exact(rfl:_=1)|exact(rfl:_=3)|exact(rfl:_=2)|exact(rfl:_=4)|exact(rfl:_=5)|exact(rfl:_=6)|exact(rfl:_=7)|exact(rfl:_=8)):a=b:=h
theorem Yl{a b:AV}(h:a=b:=by focus ((with_reducible conv=>lhs;whnf);first|done|exact rfl)):a=b:=h
theorem evK(h:Vb l i=v):R2 l i=v:=h
theorem eG{vs:List AV}[h:Rl (.agg vs) i v]:vs.getD i .Qz=v:=h.e
variable{P:Prop}
theorem lzO(h:P:=by first|omega|(dsimp only at *;omega)|(simp only[yD,yE]at *<;>omega)):P:=h
variable{S:St}{o:QW}
theorem Ym(h:S r k=some (o,g):=by first
 | exact atL rfl|exact P_ ‹_› D 0 rfl|exact P_ ‹_› D 1 rfl|exact P_ ‹_› D 2 rfl|exact P_ ‹_› D 3 rfl|exact P_ ‹_› D 4 rfl|exact P_ ‹_› D 5 rfl|exact P_ ‹_› D 6 rfl
 | exact P_ ‹_› D 7 rfl|exact P_ ‹_› D 8 rfl|exact P_ ‹_› D 9 rfl|exact P_ ‹_› D 10 rfl|exact P_ ‹_› D 11 rfl):S r k=some (o,g):=h
theorem eSe(h:S.set r k o g=S':=by first
 | exact bm|exact aI ‹_› D 0 rfl rfl|exact aI ‹_› D 1 rfl rfl|exact aI ‹_› D 2 rfl rfl|exact aI ‹_› D 3 rfl rfl|exact aI ‹_› D 4 rfl rfl|exact aI ‹_› D 5 rfl rfl|exact aI ‹_› D 6 rfl rfl
 | exact aI ‹_› D 7 rfl rfl|exact aI ‹_› D 8 rfl rfl|exact aI ‹_› D 9 rfl rfl|exact aI ‹_› D 10 rfl rfl|exact aI ‹_› D 11 rfl rfl):S.set r k o g=S':=h
theorem QZ{ops:List Oper}{E:qz}(h:cf ops log j E:=by repeat (first|exact cfn|(apply SL;decide +kernel)|(apply Q0;(first|simp[ct]|(simp[ct];omega))))):cf ops log j E:=h
theorem RE{a b:AV}(h:VW a b:=by repeat (first|exact VW.refl _|exact VW.QC|exact VW.QO QK|apply VW.QF|apply VW.Sb|exact vn|apply QJ)):VW a b:=h
variable{X:List (Nat×Nat)}
theorem Sk(h:DK X:=by
 repeat (first|exact P5|(refine dV ?_ ?_;focus (repeat (first|exact dU|(refine aq (by first|exact cc rfl|exact aK ‹_›) ?_)))))):DK X:=h
def dkI:List Nat->Bool
 | []=>true
 | i::l=>(l.all λj=>!beq i j)&&dkI l
theorem Nm{p q:Nat×Nat}(hd:DK X)(Sv:i≠j)(h1:X[i]? = some p)(h2:X[j]? = some q):¬(q.1=p.1/\q.2=p.2):=by
 rcases Nat.lt_or_gt_of_ne Sv with h|h;·exact aQ i j hd (by rw[Nat.ble_eq];omega) h1 h2
 ·exact PA (aQ j i hd (by rw[Nat.ble_eq];omega) h2 h1)
theorem Q7(l:List Nat)(hd:DK X){Y:List (Nat×Nat)}(hl:dkI l=true)(hY:l.map (λi=>X[i]?)=Y.map some):DK Y:=by
 induction l generalizing Y with
 | nil=>cases Y<;>first|trivial|cases hY
 | cons i l ih=>
  cases Y with
  | nil=>cases hY
  | cons p Y=>
   simp only[List.map_cons,List.cons.injEq]at hY;simp only[dkI,Bool.and_eq_true,List.all_eq_true]at hl;refine⟨λq hq=>?_,ih hl.2 hY.2⟩;have:some q∈l.map (λi=>X[i]?):=hY.2▸List.mem_map.2 ⟨q,hq,rfl⟩;obtain⟨j,hj,hjq⟩:=List.mem_map.1 this;exact Nm hd (λe=>by have:=hl.1 j hj;subst e;simp at this) hY.1 hjq
variable{rg:Nat}
theorem gG{v':AV}{l:dG}(SY:∀k,S rg k=none)(h:R v' S)(hv:VW v v':=by exact RE):dz R v (Qr S rg l):=ak SY hv h
inductive Fu:Nat->Prop
 | mk {n:Nat}:Fu n
variable{n:Nat}
theorem Fu.dn(_:Fu (n+1)):Fu n:=.mk
theorem Fu.big(_:Fu (n+5000)):True:=trivial
variable{σ:Type}
theorem eX0{p q:σ->Prop}{z:σ}(hq:q z)(hp:p z):∃z,p z/\q z:=⟨z,hp,hq⟩
theorem eX1{γ:Type}{p:σ×γ->Prop}{q:σ->Prop}{a:σ}(hq:q a)(h:∃g,p (a,g)):∃z,p z/\q z.1:=let ⟨g,h⟩:=h;⟨(a,g),h,hq⟩
theorem eXp{β:Type}{p:α×β->Prop}(h:∃a,∃b,p (a,b)):∃g,p g:=let ⟨a,b,h⟩:=h;⟨(a,b),h⟩
structure Wr(Q:Prop):Prop where
 v:Q
theorem mI(_:True)(h:P):P:=h
theorem Rj{t:Env}{S0:St}{l m:dG}{es:List (Nat×AV)}(hf:Fit t es:=by repeat (first|exact fn|apply fZ|(apply fc;exact VW.QO QK)|(apply fc;exact VW.QC)))(hs:zo l m:=by repeat (first|exact sn|(apply sc;exact rfl))):Rm t (Qr S0 rg l) (aC es) (Qr S0 rg m):=canon hf hs
theorem wk(n:Nat){Q:Prop}(k:Q)(h:Fu n->Wr Q->P:=by
 intro fu q;have hz:=h
 (first|with_reducible apply nWl|with_reducible apply nVc|with_reducible apply nVd|skip)
 repeat' (first
  | (
    (with_reducible apply voI);first
    | ((with_reducible apply Ir);exact eE)
    | ((with_reducible apply bX);exact eE)
    | ((with_reducible apply eFa);exact FI.fa;exact eE;focus (conv=>lhs;whnf))
    | ((with_reducible apply PP);exact eE;exact Ym;exact TI.sz;exact TI.ag;exact rfl;exact Rl.e)
    | ((with_reducible apply OX);exact eE;exact Ym;exact TI.sz;exact TI.ag;exact rfl)
    | ((with_reducible apply Fv);exact eE;exact eE)
    | ((with_reducible apply LS);exact eE;exact eE)
    | ((with_reducible apply Iu);exact eE;exact eE)
    | ((with_reducible apply It);exact eE;exact eE)
    | ((with_reducible apply Oq);exact eE;exact eE)
    | ((with_reducible apply LN);exact eE;exact eE)
    | (apply P4 hz;exact eE;exact eE;intro hz hz)
    | (apply PF hz;exact eE;exact eE;intro hz hz)
    | ((with_reducible apply LR);exact TI.td;exact eE)
    | ((with_reducible apply M5);exact TI.td;exact eE)
    | (apply PU hz;exact TI.td;exact eE;exact eE;exact TI.sz;decide;exact λ_=>rfl;intro hz hz)
    | (apply PT hz;exact TI.td;exact eE;exact eE;exact TI.sz;decide;intro hz hz)
    | ((with_reducible apply OV);exact TI.sz;exact TI.ag;exact eE;exact rfl)
    | ((with_reducible apply PN);exact TI.sz;exact TI.ag;exact eE;exact rfl;exact inferInstance)
    | ((with_reducible apply PO);exact TI.sz;exact TI.ag;exact eE;exact rfl;exact inferInstance)
    | ((with_reducible apply eFd);exact FI.fa;exact eE;exact rfl)
    | ((with_reducible apply OY);exact eE;exact Ym;exact TI.ag;exact TI.sz;decide;exact rfl)
    | ((with_reducible apply OU);exact TI.ag;exact TI.sz;decide;exact eE;exact rfl;exact rfl)
    | ((with_reducible apply PM);exact TI.sz;exact TI.ag;exact eE;exact Ym;(case ih=>exact inferInstance);exact lzO;exact rfl;exact rfl)
    | ((with_reducible apply OS);exact TI.sz;exact TI.ag;exact eE;exact Ym;(case ih=>exact inferInstance);exact lzO;exact rfl;exact inferInstance)
    | ((with_reducible apply OT);exact TI.ag;exact TI.sz;decide;exact eE;exact Ym;(case ih=>exact inferInstance);exact lzO;exact rfl;exact rfl)
    | ((with_reducible apply PG);exact eE;exact eE;exact Ym;exact TI.sz;decide;exact rfl;exact rfl;exact rfl;exact eSe)
    | ((with_reducible apply PI);exact eE;exact eE;exact Ym;exact TI.sz;exact rfl;exact rfl;exact inferInstance;exact eSe)
    | ((with_reducible apply PH);exact eE;exact Ym;exact eE;exact TI.sz;decide;exact λ_=>rfl;exact lzO;exact rfl;exact λ_=>rfl;exact eSe)
    | ((with_reducible apply qG);exact eE)
    | ((with_reducible apply Iv);exact TI.td;exact TI.td;exact eE)
    | ((with_reducible apply Gv);exact eE;exact rfl;exact eG)
    | ((with_reducible apply Kv);exact eE;(first|assumption|exact rfl);exact eE)
    | ((with_reducible apply Kw);exact eE;(first|assumption|exact rfl);exact eE)
    | ((with_reducible apply PS);exact rfl;exact eE)
    | ((with_reducible apply Fw);exact TI.td;exact eE;exact eE;exact rfl)
    | ((with_reducible apply Fx);exact TI.td;exact eE;exact eE;exact rfl)
    | ((with_reducible apply PQ);exact TI.td;exact eE;exact eE;exact rfl)
    | ((with_reducible apply PR);exact TI.td;exact eE;exact eE;exact rfl)
    | ((with_reducible apply MX);exact eE)
    | ((with_reducible apply MY);exact eE)
    | ((with_reducible apply P0);exact eE;exact rfl;exact eN;decide;intro gz)
    | ((with_reducible apply Fy);exact ZI.z;exact ZI.ok;exact eN;intro gz)
    | (apply PL hz;exact eE;exact eE;intro hz hz)
    | ((with_reducible apply LW);exact eE;exact eE)
    | ((with_reducible apply LM);exact eE;exact eE)
    | ((with_reducible apply LP);exact eE;exact eE)
    | ((with_reducible apply Ou);exact eE;exact eE)
    | ((with_reducible apply MW);exact eE;exact eE)
    | ((with_reducible apply On);exact eE;exact eE)
    | ((with_reducible apply Iy);exact eE;exact eE)
    | ((with_reducible apply we);exact eE;exact eE;decide)
    | ((with_reducible apply wg);exact eE;exact eE;decide)
    | ((with_reducible apply LO);exact eE)
    | ((with_reducible apply M6);exact TI.td;exact eE;exact eE)
    | ((with_reducible apply M0);exact TI.td;exact eE;exact eE)
    | ((with_reducible apply LQ);exact eE;exact eE)
    | ((with_reducible apply Oo);exact eE;exact eE))
  | (
    replace fu:=Fu.dn fu;first
    | (with_reducible apply eC W)
    | (with_reducible apply qZ)
    | (with_reducible apply rZ)
    | (with_reducible apply nZ)
    | (with_reducible apply kZ)
    | (with_reducible apply bZ)
    | (with_reducible apply VB)
    | ((with_reducible apply xnZ);exact rfl)
    | ((with_reducible apply eGT);exact rfl;exact Yl;(first|assumption|exact rfl))
    | ((with_reducible apply eGF);exact rfl;exact Yl;(first|assumption|exact rfl);exact rfl)
    | ((with_reducible apply eGU);exact rfl;exact Yl)
    | (with_reducible apply eC0 W)
    | ((with_reducible apply eDP);exact rfl;exact rfl)
    | ((with_reducible apply eDL);exact rfl;(first|exact fpL eE|exact fpS eE|exact(rfl:_=([],[(_,_)])));simp;exact QZ)
    | ((with_reducible apply PV);exact rfl;exact rfl)
    | ((with_reducible apply PW);exact rfl;exact fpS eE;simp;exact QZ)
    | (with_reducible apply dN)
    | ((with_reducible apply PY);exact rfl;exact Yl;(first|assumption|exact rfl))
    | ((with_reducible apply PZ);exact rfl;exact Yl;(first|assumption|exact rfl);exact rfl)
    | ((with_reducible apply PX);exact rfl;exact Yl))
  | (
    (with_reducible apply mI (Fu.big fu));first
    | (with_reducible apply uZ)
    | (with_reducible apply eRq)
    | ((with_reducible apply ah);apply evK;exact Yl)
    | (with_reducible apply am)
    | ((with_reducible apply PJ);apply evK;exact Yl;exact Ym;exact TI.ag;exact TI.sz;decide;exact rfl)
    | ((with_reducible apply PK);apply evK;exact Yl;exact Ym;exact TI.sz;exact TI.ag;exact rfl)
    | exact gG H (L _ hz)
    | exact gG H (L _ _ hz)
    | exact gG H (L hz)
    | exact gG H (L _ _ _ hz)
    | exact gG (F _ rfl) (L _ hz)
    | exact gG (F _ rfl) (L _ _ hz)
    | exact gG (F _ rfl) (L _ _ _ hz)
    | exact gG (F _ rfl) (L _ _ _ _ hz)
    | exact gG (F _ rfl) (L _ _ _ _ _ hz)
    | exact gG (F _ rfl) (L _ _ _ _ _ _ hz)
    | exact gG (F _ rfl) (L hz)
    | ((first|(apply eX1 hz;repeat (first|(with_reducible apply eXp)|(with_reducible apply Exists.intro)))|apply eX0 hz);(try dsimp only);refine canon ?_ ?_;(focus (repeat (first|exact fn|apply fZ|(apply fc;exact VW.QO QK)|(apply fc;exact VW.QC))));(focus (repeat (first|exact sn|(apply sc;exact rfl)))))
    | ((apply cZ hz;exact eE)<;>intro hz hz)
    | ((apply egt hz;exact rfl;exact Yl)<;>intro hz hz)
    | ((apply egf hz;exact rfl;exact Yl)<;>intro hz hz)
    | ((with_reducible apply Vc.Qf mixed W (λ_=>eo));exact Ql)))
 all_goals (repeat revert hz)
 all_goals (repeat revert gz)
 all_goals exact q.v):P:=h .mk ⟨k⟩
end Go.Gg
