/- An own logic over the kit's weakest preconditions, part En: straight walks by search. Conditions: none. -/
import Derived.Test.YtcmagbhiioheeaaGreatDoorGc
import Derived.Test.YtcmagbhiioheeaaGreatDoorGd
open Nat (beq ble)
namespace Go.Gg
abbrev EL:=List (Nat×AV)
@[reducible] def lkE:EL->Env
  | [],_=>.junk
  | (k,v) :: l,i=>match beq i k with | true=>v | false=>lkE l i
@[reducible] def enu:Nat->List AV->EL
  | _,[]=>[]
  | k,a :: l=>(k,a) :: enu (k+1) l
theorem vu {l:EL} {k i:Nat} {v:AV}:lkE ((k,v) :: l) i=if i=k then v else lkE l i:=by
  show(match beq i k with | true=>v | false=>lkE l i)=_
  by_cases h:i=k
  · subst h;rw[Nat.beq_refl,if_pos rfl]
  · rw[if_neg h,(Bool.eq_false_iff.2 λhh=>h (Nat.eq_of_beq_eq_true hh):beq i k=false)]
theorem B_:∀l:EL,aw l=lkE l
  | []=>rfl
  | (k,v) :: l=>by
    funext i
    rw[vu,<-B_ l]
    show(bif beq i k then v else aw l i)=_
    by_cases h:i=k
    · subst h;rw[Nat.beq_refl,if_pos rfl];rfl
    · rw[if_neg h,(Bool.eq_false_iff.2 λhh=>h (Nat.eq_of_beq_eq_true hh):beq i k=false)];rfl
def lkF (l:EL):Env:=λi=>lkE l i
theorem Bl {l:EL} {d:Nat} {v:AV}:upd (lkF l) d v=lkF ((d,v) :: l):=by
  funext i
  show _=lkE ((d,v) :: l) i
  rw[vu];rfl
theorem md {l:EL} {d:Nat} {v:AV}:cK (lkF l) (some d) v=lkF ((d,v) :: l):=Bl
theorem UY (vs:List AV):args vs=lkF (enu 0 vs):=by
  have h:∀(vs:List AV) k i,lkE (enu k vs) (k+i)=vs.getD i .junk:=λvs=>by
    induction vs with
    | nil=>intro k i;rfl
    | cons a vs ih=>
      intro k i
      show lkE ((k,a) :: enu (k+1) vs) (k+i)=_
      rw[vu]
      cases i with
      | zero=>rw[if_pos om];rfl
      | succ i=>rw[if_neg om,show k+(i+1)=k+1+i by omega,ih];simp
  funext i
  have:=h vs 0 i
  rw[Nat.zero_add] at this
  exact this.symm
class EnvN (t:Env) (l:outParam EL):Prop where
  e:t=lkF l
instance {l:EL}:EnvN (lkF l) l:=⟨rfl⟩
instance {l:EL}:EnvN (aw l) l:=⟨(B_ l).trans rfl⟩
instance {vs:List AV}:EnvN (args vs) (enu 0 vs):=⟨UY vs⟩
instance {t:Env} {l:EL} {d:Nat} {v:AV} [h:EnvN t l]:EnvN (cK t (some d) v) ((d,v) :: l):=⟨by rw[h.e,md]⟩
instance {t:Env} {l:EL} {v:AV} [h:EnvN t l]:EnvN (cK t none v) l:=⟨h.e⟩
instance {t:Env} {l:EL} {d:Nat} {v:AV} [h:EnvN t l]:EnvN (upd t d v) ((d,v) :: l):=⟨by rw[h.e,Bl]⟩
class TI (P:Program) (T:TypeId) (y:outParam TD) (s:outParam Nat) (a:outParam Bool):Prop where
  td:td P T=y
  sz:sz P T=s
  ag:ae P T=a
class ZI (P:Program) (T:TypeId) (z:outParam AV):Prop where
  z:zav P T=z
  ok:aA P T=true
class FI (P:Program) (T f:Nat) (off et:outParam Nat):Prop where
  fa:FA P T f off et
class CellI (u:AV) (off:Nat) (v:outParam AV):Prop where
  e:u.cells.getD off .junk=v
instance {a:AV} {l:List AV}:CellI (.agg (a :: l)) 0 a:=⟨rfl⟩
instance {a v:AV} {l:List AV} {n:Nat} [h:CellI (.agg l) n v]:CellI (.agg (a :: l)) (n+1) v:=⟨h.e⟩
class StI (u:AV) (off:Nat) (w:AV) (v:outParam AV):Prop where
  e:w.cells=[w]->stv u off w=v
instance {a w:AV} {l:List AV}:StI (.agg (a :: l)) 0 w (.agg (w :: l)):=⟨λh=>by simp[stv,h]⟩
instance {a w:AV} {l m:List AV} {n:Nat} [h:StI (.agg l) n w (.agg m)]:StI (.agg (a :: l)) (n+1) w (.agg (a :: m)):=⟨λhw=>by
  have:=h.e hw
  simp only[stv,hw,List.length_singleton,AV.agg.injEq] at this ⊢
  rw[<-this,show n+1+1=(n+1)+1 from rfl]
  simp⟩
section
variable {P:Program} {n rg:Nat} {t:Env} {l:EL} {S S0:St} {L:cq} {ops rest:List Oper} {K:Env->St->Prop} {KA:AV->St->Prop} {op:Op} {ty:TypeId} {pos:String} {after:Array Edge} {v:AV} {x y c i:Operand} {T T' e:TypeId} {k:IntKind} {m q:Int} {B:Prop} {d:Nat} {dd:Option Nat}
theorem nWl [h:EnvN t l] (k:Wl P n ops rest K (lkF l) S):Wl P n ops rest K t S:=h.e▸k
theorem nVd {us:Nat->CR2} {j:Nat} {log:Log} [h:EnvN t l] (k:vdT P rg us ops rest j log (lkF l) S K):vdT P rg us ops rest j log t S K:=h.e▸k
theorem voI (k:vo P rg dd op t S KA):vo P rg dd op t S KA:=k
theorem nVc {c:Code} {Q:AK} [h:EnvN t l] (k:Vc P n c Q (lkF l) S):Vc P n c Q t S:=h.e▸k
theorem eC (rg:Nat) (h:vo P rg (some d) op (lkF l) S (λv S'=>Wl P n ops rest K (lkF ((d,v) :: l)) S')):Wl P n ops (⟨some d,op,ty,pos,after,none⟩ :: rest) K (lkF l) S:=by
  refine Wl.cons rg ?_
  simp only[md]
  exact h
theorem eC0 (rg:Nat) (h:vo P rg none op (lkF l) S (λ_ S'=>Wl P n ops rest K (lkF l) S')):Wl P n ops (⟨none,op,ty,pos,after,none⟩ :: rest) K (lkF l) S:=Wl.cons rg h
variable {us:Nat->CR2} {jj:Nat} {log:Log} {E:nT}
theorem eDP (hvc:wy (us jj) op=false) (hE:kC rg d (us jj) op (ev (lkF l))=([],[])) (h:vo P rg (some d) op (lkF l) S (λv S'=>vdT P rg us ops rest (jj+1) log (lkF ((d,v) :: l)) S' K)):vdT P rg us ops (⟨some d,op,ty,pos,after,none⟩ :: rest) jj log (lkF l) S K:=by
  refine dP hvc hE ?_
  simp only[md]
  exact h
theorem eDL (hvc:wy (us jj) op=false) (hE:kC rg d (us jj) op (ev (lkF l))=E) (hne:E≠([],[])) (hcf:cf ops log jj E) (h:vo P rg (some d) op (lkF l) S (λv S'=>vdT P rg us ops rest (jj+1) ((jj,E) :: log) (lkF ((d,v) :: l)) S' K)):vdT P rg us ops (⟨some d,op,ty,pos,after,none⟩ :: rest) jj log (lkF l) S K:=by
  refine dL hvc hE hne hcf ?_
  simp only[md]
  exact h
theorem acd (hvc:wy (us jj) op=false) (hE:kC rg 0 (us jj) op (ev (lkF l))=([],[])) (h:vo P rg none op (lkF l) S (λ_ S'=>vdT P rg us ops rest (jj+1) log (lkF l) S' K)):vdT P rg us ops (⟨none,op,ty,pos,after,none⟩ :: rest) jj log (lkF l) S K:=dP hvc hE h
theorem ace (hvc:wy (us jj) op=false) (hE:kC rg 0 (us jj) op (ev (lkF l))=E) (hne:E≠([],[])) (hcf:cf ops log jj E) (h:vo P rg none op (lkF l) S (λ_ S'=>vdT P rg us ops rest (jj+1) ((jj,E) :: log) (lkF l) S' K)):vdT P rg us ops (⟨none,op,ty,pos,after,none⟩ :: rest) jj log (lkF l) S K:=dL hvc hE hne hcf h
theorem fpL {u:CR2} {e:Operand->AV} {r k g i off:Nat} (hx:e x = .ptr r k g i off):kC rg d u (.load T x) e=([(r,k)],[]):=by
  show((match e x with | .ptr r k _ _ _=>[(r,k)] | _=>[]),_)=_
  rw[hx];rfl
theorem fpS {u:CR2} {e:Operand->AV} {r k g i off:Nat} (hx:e x = .ptr r k g i off):kC rg d u (.store T x y) e=([],[(r,k)]):=by
  show(_,Option.toList (match e x with | .ptr r k _ _ _=>some (r,k) | _=>none))=_
  rw[hx];rfl
theorem acg {g gj:Nat} {want b:Bool} (hd:(ops[gj]?).bind (·.dst)=some g) (hb:lkE l g = .bool b) (hv:b=want) (h:vdT P rg us ops (⟨dd,op,ty,pos,after,none⟩ :: rest) jj log (lkF ((g,.bool want) :: l)) S K):vdT P rg us ops (⟨dd,op,ty,pos,after,some (gj,want)⟩ :: rest) jj log (lkF l) S K:=dGT hd hb hv (Bl▸h)
theorem ach {g gj:Nat} {want b b':Bool} (hd:(ops[gj]?).bind (·.dst)=some g) (hb:lkE l g = .bool b) (hv:b=b') (hn:b' = !want) (h:vdT P rg us ops rest (jj+1) log (lkF ((d,.tuple []) :: (g,.bool !want) :: l)) S K):vdT P rg us ops (⟨some d,op,ty,pos,after,some (gj,want)⟩ :: rest) jj log (lkF l) S K:=dGF hd hb hv hn (by rw[Bl,md];exact h)
theorem acf {g gj:Nat} {want:Bool} (hd:(ops[gj]?).bind (·.dst)=some g) (hb:lkE l g = .tuple []) (h:vdT P rg us ops rest (jj+1) log (lkF ((d,.tuple []) :: l)) S K):vdT P rg us ops (⟨some d,op,ty,pos,after,some (gj,want)⟩ :: rest) jj log (lkF l) S K:=dGU hd hb (md▸h)
theorem evT {i:Nat} (h:lkE l i=v):ev (lkF l) (.tmp i)=v:=h
theorem evI {m:Int}:ev t (.const (.int k m)) = .int k m:=rfl
theorem evN:ev t (.const .nilIface) = .niface:=rfl
theorem evL:ev t (.const (.slice none 0 0)) = .nil:=rfl
theorem evP:ev t (.const (.pointer none)) = .nilp:=rfl
theorem evM:ev t (.const (.map none)) = .nilmap:=rfl
theorem evS {s:ByteArray}:ev t (.const (.string s)) = .str s:=rfl
theorem evJ {m:Int}:ev t (.const (.iface T (.int k m))) = .iface T (.int k m):=rfl
theorem evF {f:FuncId}:ev t (.func f) = .fn (.func f) [] []:=rfl
theorem evB {b:Bool}:ev t (.const (.bool b)) = .bool b:=rfl
theorem eFa {f off et r k' g i off0 o':Nat} (h:FA P T f off et) (hx:ev t x = .ptr r k' g i off0) (ho:off0+off=o') (k:KA (.ptr r k' g i o') S):vo P rg dd (.fieldAddr T x f) t S KA:=Dj h hx (ho.symm▸k)
theorem ab6 {r k kk g off:Nat} {u:AV} (hx:ev t x = .ptr r k g 0 off) (hS:S r k=some (.arr kk [u],g)) (hs:sz P T=1) (ha:ae P T=false) (hl:ble (off+1) kk=true) (hv:u.cells.getD off .junk=v) (h:KA v S):vo P rg dd (.load T x) t S KA:=uY hS hs ha hx hl hv h
theorem Y1 {r k g:Nat} {u:AV} (hx:ev t x = .ptr r k g 0 0) (hS:S r k=some (.arr 1 [u],g)) (hs:sz P T=1) (ha:ae P T=false) (hc:u.cells=[u]) (h:KA u S):vo P rg dd (.load T x) t S KA:=uY hS hs ha hx rfl (by rw[hc];rfl) h
theorem Y2 {r k kk g:Nat} {u:AV} (hx:ev t x = .ptr r k g 0 0) (hS:S r k=some (.arr kk [u],g)) (ha:ae P T=true) (hs:sz P T=kk) (h0:0<kk) (hv:AV.agg ((u.cells.drop 0).take kk)=u) (h:KA u S):vo P rg dd (.load T x) t S KA:=cG hS hs h0 ha hx zSm hv h
theorem acj (h0:rng (m+q)/\B) (hx:ev t x = .int .i64 m) (hy:ev t y = .int .i64 q) (h:rng (m+q)->B->KA (.int .i64 (m+q)) S):vo P rg dd (.binOp .add T x y T') t S KA:=qh hx hy h0.1 (h h0.1 h0.2)
theorem abW (h0:rng (m-q)/\B) (hx:ev t x = .int .i64 m) (hy:ev t y = .int .i64 q) (h:rng (m-q)->B->KA (.int .i64 (m-q)) S):vo P rg dd (.binOp .sub T x y T') t S KA:=jY hx hy h0.1 (h h0.1 h0.2)
theorem ab2 (h0:rng (m*q)/\B) (hx:ev t x = .int .i64 m) (hy:ev t y = .int .i64 q) (h:rng (m*q)->B->KA (.int .i64 (m*q)) S):vo P rg dd (.binOp .mul T x y T') t S KA:=RW hx hy h0.1 (h h0.1 h0.2)
theorem acb {α:Type} [Inhabited α] {enc:α->AV} {l:List α} {kk:Nat} (h0:(0<=m/\m<l.length)/\B) (hT:td P T = .slice e) (hx:ev t x=eL enc l) (hi:ev t i = .int k m) (hs:sz P e=kk) (hk0:0<kk) (hk:∀z,(enc z).cells.length=kk)
    (h:(0<=m/\m<l.length)->B->KA (.iptr (enc (at' l m)).cells) S):vo P rg dd (.indexAddr T x i) t S KA:=fv hT hs hk0 hk hx hi h0.1 (h h0.1 h0.2)
theorem aca {kk r k' g c:Nat} (h0:(0<=m/\m<(c:Int))/\B) (hT:td P T = .slice e) (hx:ev t x = .sl kk r k' g 0 c) (hi:ev t i = .int k m) (hs:sz P e=kk) (hk0:0<kk) (h:(0<=m/\m<(c:Int))->B->KA (.ptr r k' g m.toNat 0) S):vo P rg dd (.indexAddr T x i) t S KA:=aS hT hs hk0 hx hi h0.1 (h h0.1 h0.2)
theorem ab4 {u:AV} (hs:sz P T=1) (ha:ae P T=false) (hx:ev t x = .iptr u.cells) (hl:ble 1 u.cells.length=true) (hv:CellI u 0 v) (h:KA v S):vo P rg dd (.load T x) t S KA:=uX hs ha hx hl hv.e h
theorem Y0 {α:Type} {enc:α->AV} {a:α} (hs:sz P T=1) (ha:ae P T=false) (hx:ev t x = .iptr (enc a).cells) (hl:(enc a).cells=[enc a]) (h:KA (enc a) S):vo P rg dd (.load T x) t S KA:=uX hs ha hx (by rw[hl];rfl) (by rw[hl];rfl) h
theorem YZ {u:AV} {kk:Nat} (ha:ae P T=true) (hs:sz P T=kk) (h0:0<kk) (hx:ev t x = .iptr u.cells) (hl:ble kk u.cells.length=true) (hv:AV.agg ((u.cells.drop 0).take kk)=u) (h:KA u S):vo P rg dd (.load T x) t S KA:=Gd hs h0 ha hx hl hv h
theorem ab3 {α:Type} {enc:α->AV} {l:List α} {r k kk g:Nat} (hs:sz P T=1) (ha:ae P T=false) (hx:ev t x = .ptr r k g m.toNat 0) (hS:S r k=some (.arr kk (l.map enc),g)) (ih:Inhabited α) (hi:m.toNat<l.length) (hl:ble (0+1) kk=true) (hv:(enc (at' l m)).cells=[enc (at' l m)]) (h:KA (enc (at' l m)) S):vo P rg dd (.load T x) t S KA:=uW hS hs ha hx hi hl (by rw[hv];rfl) h
theorem YX {α:Type} {enc:α->AV} {l:List α} {r k kk g off:Nat} (hs:sz P T=1) (ha:ae P T=false) (hx:ev t x = .ptr r k g m.toNat off) (hS:S r k=some (.arr kk (l.map enc),g)) (ih:Inhabited α) (hi:m.toNat<l.length) (hl:ble (off+1) kk=true) (hv:CellI (enc (at' l m)) off v) (h:KA v S):vo P rg dd (.load T x) t S KA:=uW hS hs ha hx hi hl hv.e h
theorem YY {α:Type} {enc:α->AV} {l:List α} {r k kk g:Nat} (ha:ae P T=true) (hs:sz P T=kk) (h0:0<kk) (hx:ev t x = .ptr r k g m.toNat 0) (hS:S r k=some (.arr kk (l.map enc),g)) (ih:Inhabited α) (hi:m.toNat<l.length) (hl:ble (0+kk) kk=true) (hv:AV.agg (((enc (at' l m)).cells.drop 0).take kk)=enc (at' l m)) (h:KA (enc (at' l m)) S):vo P rg dd (.load T x) t S KA:=gT hS hs h0 ha hx hi hl hv h
theorem aci {kk:Nat} (hx:ev t x=v) (hs:v.solid=true) (hk:v.cells.length=kk) (h0:0<kk) (h:∀g,KA (.ptr rg d g 0 0) (stL S0 rg ((d,.arr kk [v],g) :: L))):vo P rg (some d) (.box T x) t (stL S0 rg L) KA:=YG hx hs hk h0 h
theorem ab5 {u:AV} {off:Nat} (hs:sz P T=1) (ha:ae P T=false) (hx:ev t x = .iptr (u.cells.drop off)) (hl:ble 1 (u.cells.drop off).length=true) (hv:CellI u off v) (h:KA v S):vo P rg dd (.load T x) t S KA:=uX hs ha hx hl (by have:=hv.e;simpa[List.getD_eq_getElem?_getD] using this) h
theorem eFd {u:AV} {f off et:Nat} (h:FA P T f off et) (hx:ev t x = .iptr u.cells) (hl:ble off u.cells.length=true) (k:KA (.iptr (u.cells.drop off)) S):vo P rg dd (.fieldAddr T x f) t S KA:=faZ h hx hl k
def abT:TD->Bool
  | .iface | .other=>true
  | _=>false
theorem ab9 {y:TD} {s:Nat} {a:Bool} [hi:TI P T y s a] (hy:abT y=false) (hx:ev t x=v) (h:KA (.iface T v) S):vo P rg dd (.makeInterface T x) t S KA:=HS (by rw[hi.td];cases y<;>first | trivial | cases hy) hx h
theorem abX {r k kk g sz':Nat} {u w:AV} {S':St} (ha:ev t c = .ptr r k g 0 0) (hx:ev t x=w) (hS:S r k=some (.arr kk [u],g)) (hs:sz P T=sz') (h0:0<sz') (hl:beq w.cells.length sz'=true) (hc:(ble (0+sz') kk && eO w.cells)=true)
    (hv:stv u 0 w=w) (hset:S.set r k (.arr kk [w]) g=S') (h:KA .junk S'):vo P rg dd (.store T c x) t S KA:=zt hS hs h0 ha hx hl hc hv hset h
theorem abZ {r k kk g off:Nat} {u w:AV} {S':St} (ha:ev t c = .ptr r k g 0 off) (hx:ev t x=w) (hS:S r k=some (.arr kk [u],g)) (hs:sz P T=1) (hl:w.cells=[w]) (hc:(ble (off+1) kk && eO [w])=true)
    (hv:StI u off w v) (hset:S.set r k (.arr kk [v]) g=S') (h:KA .junk S'):vo P rg dd (.store T c x) t S KA:=zt hS hs (by decide) ha hx (by rw[hl];rfl) (by rw[hl];exact hc) (hv.e hl) hset h
theorem abY {α:Type} {enc:α->AV} {l:List α} {x':α} {r k kk g:Nat} {S':St} (ha:ev t c = .ptr r k g m.toNat 0) (hS:S r k=some (.arr kk (l.map enc),g)) (hx:ev t x=enc x') (hs:sz P T=kk) (h0:0<kk) (hk:∀z,(enc z).cells.length=kk) (hi:m.toNat<l.length)
    (hc:eO (enc x').cells=true) (hst:∀z,fA (enc z)=false) (hset:S.set r k (.arr kk ((aN l m x').map enc)) g=S') (h:KA .junk S'):vo P rg dd (.store T c x) t S KA:=CU hS hs h0 hk ha hx hi hc (hst _) hset h hst
theorem eRq {rs:List ResultVar} {R:AV->St->Prop} (h:kM P rs t S (λvs=>cN R (E9 vs) S)):xO P rs R t S:=h
theorem ab0 {rs:List ResultVar} {r a k kk g:Nat} {u:AV} {KL:List AV->Prop} (hx:t a = .ptr r k g 0 0) (hS:S r k=some (.arr kk [u],g)) (ha:ae P T=true) (hs:sz P T=kk) (h0:0<kk) (hv:AV.agg ((u.cells.drop 0).take kk)=u) (h:kM P rs t S (λvs=>KL (u :: vs))):kM P (.cell a T :: rs) t S KL:=aO hS hs h0 ha hx zSm hv h
theorem ab1 {rs:List ResultVar} {r a k g:Nat} {u:AV} {KL:List AV->Prop} (hx:t a = .ptr r k g 0 0) (hS:S r k=some (.arr 1 [u],g)) (hs:sz P T=1) (ha:ae P T=false) (hv:u.cells=[u]) (h:kM P rs t S (λvs=>KL (u :: vs))):kM P (.cell a T :: rs) t S KL:=CM hS hs ha hx rfl (by rw[hv];rfl) h
theorem ab7 (hT:td P T = .iface) (hx:ev t x = .niface) (hy:ev t y = .niface) (hc:(gP x || gP y)=true) (h:KA (.bool false) S):vo P rg dd (.binOp .neq T x y T') t S KA:=BT (E:=0) (o:=none) hT hx hy hc h
theorem ab8 (hT:td P T = .iface) (hx:ev t x = .niface) (hy:ev t y = .niface) (hc:(gP x || gP y)=true) (h:KA (.bool true) S):vo P rg dd (.binOp .eql T x y T') t S KA:=BU (E:=0) (o:=none) hT hx hy hc h
variable {j g:Nat}
theorem eGT {want b:Bool} (hd:(ops[j]?).bind (·.dst)=some g) (hb:lkE l g = .bool b) (hv:b=want) (h1:Wl P n ops (⟨dd,op,ty,pos,after,none⟩ :: rest) K (lkF l) S):Wl P n ops (⟨dd,op,ty,pos,after,some (j,want)⟩ :: rest) K (lkF l) S:=gTZ hd hb hv h1
theorem eGF {want b b':Bool} (hd:(ops[j]?).bind (·.dst)=some g) (hb:lkE l g = .bool b) (hv:b=b') (hn:b' = !want) (h1:Wl P n ops rest K (lkF ((d,.tuple []) :: l)) S):Wl P n ops (⟨some d,op,ty,pos,after,some (j,want)⟩ :: rest) K (lkF l) S:=gFZ hd hb hv hn (md▸h1)
theorem eGU {want:Bool} (hd:(ops[j]?).bind (·.dst)=some g) (hb:lkE l g = .tuple []) (h1:Wl P n ops rest K (lkF ((d,.tuple []) :: l)) S):Wl P n ops (⟨some d,op,ty,pos,after,some (j,want)⟩ :: rest) K (lkF l) S:=gUZ hd hb (md▸h1)
theorem egt {b:Bool} {A:Prop} (h:ac b A B) (hd:(ops[j]?).bind (·.dst)=some g) (hb:lkE l g = .bool b) (h1:b=true->A->Wl P n ops (⟨some d,op,ty,pos,after,none⟩ :: rest) K (lkF l) S) (h2:b=false->B->Wl P n ops rest K (lkF ((d,.tuple []) :: l)) S) :
    Wl P n ops (⟨some d,op,ty,pos,after,some (j,true)⟩ :: rest) K (lkF l) S:=gtZ h hd hb h1 (md▸h2)
theorem egf {b:Bool} {A:Prop} (h:ac b A B) (hd:(ops[j]?).bind (·.dst)=some g) (hb:lkE l g = .bool b) (h1:b=false->B->Wl P n ops (⟨some d,op,ty,pos,after,none⟩ :: rest) K (lkF l) S) (h2:b=true->A->Wl P n ops rest K (lkF ((d,.tuple []) :: l)) S) :
    Wl P n ops (⟨some d,op,ty,pos,after,some (j,false)⟩ :: rest) K (lkF l) S:=gfZ h hd hb h1 (md▸h2)
end
theorem eE {a b:AV} (h:a=b:=by
  first
    | ((with_reducible apply evT);focus ((with_reducible conv=>lhs;whnf);first | done | exact rfl))
    | exact evI | exact evB | exact evN | exact evL | exact evF | exact evJ | exact evP | exact evM | exact evS):a=b:=h
theorem eN {a b:Nat} (h:a=b:=by first | exact(rfl:_=1) | exact(rfl:_=3) | exact(rfl:_=2) | exact(rfl:_=4) | exact(rfl:_=5) | exact(rfl:_=6) | exact(rfl:_=7) | exact(rfl:_=8)):a=b:=h
theorem eE' {a b:AV} (h:a=b:=by focus ((with_reducible conv=>lhs;whnf);first | done | exact rfl)):a=b:=h
theorem evK {l:EL} {i:Nat} {v:AV} (h:lkE l i=v):lkF l i=v:=h
theorem eG {vs:List AV} {i:Nat} {v:AV} [h:CellI (.agg vs) i v]:vs.getD i .junk=v:=h.e
theorem lzO {P:Prop} (h:P:=by first | omega | (dsimp only at *;omega) | (simp only[vC,vD] at *<;>omega)):P:=h
theorem eAt {S:St} {r k g:Nat} {o:GObj} (h:S r k=some (o,g):=by first
  | exact atL rfl | exact atX ‹_› hdx 0 rfl | exact atX ‹_› hdx 1 rfl | exact atX ‹_› hdx 2 rfl | exact atX ‹_› hdx 3 rfl | exact atX ‹_› hdx 4 rfl | exact atX ‹_› hdx 5 rfl | exact atX ‹_› hdx 6 rfl
  | exact atX ‹_› hdx 7 rfl | exact atX ‹_› hdx 8 rfl | exact atX ‹_› hdx 9 rfl | exact atX ‹_› hdx 10 rfl | exact atX ‹_› hdx 11 rfl):S r k=some (o,g):=h
theorem eSe {S S':St} {r k g:Nat} {o:GObj} (h:S.set r k o g=S':=by first
  | exact bY | exact bp ‹_› hdx 0 rfl rfl | exact bp ‹_› hdx 1 rfl rfl | exact bp ‹_› hdx 2 rfl rfl | exact bp ‹_› hdx 3 rfl rfl | exact bp ‹_› hdx 4 rfl rfl | exact bp ‹_› hdx 5 rfl rfl | exact bp ‹_› hdx 6 rfl rfl
  | exact bp ‹_› hdx 7 rfl rfl | exact bp ‹_› hdx 8 rfl rfl | exact bp ‹_› hdx 9 rfl rfl | exact bp ‹_› hdx 10 rfl rfl | exact bp ‹_› hdx 11 rfl rfl):S.set r k o g=S':=h
theorem eCf {ops:List Oper} {log:Log} {j:Nat} {E:nT} (h:cf ops log j E:=by repeat (first | exact cfn | (apply cfo;decide +kernel) | (apply cfa;(first | simp[mH] | (simp[mH];omega))))):cf ops log j E:=h
theorem eVw {a b:AV} (h:VW a b:=by repeat (first | exact VW.refl _ | exact VW.nilL | exact VW.slen lzZ | apply VW.tupL | apply VW.aggL | exact vn | apply vl')):VW a b:=h
theorem eDk {X:List (Nat×Nat)} (h:DK X:=by
  repeat (first | exact ack | (refine qt ?_ ?_;focus (repeat (first | exact qi | (refine bg (by first | exact gU rfl | exact cc ‹_›) ?_)))))):DK X:=h
def dkI:List Nat->Bool
  | []=>true
  | i :: l=>(l.all λj=>!beq i j) && dkI l
theorem S6 {X:List (Nat×Nat)} {i j:Nat} {p q:Nat×Nat} (hd:DK X) (hij:i≠j) (h1:X[i]? = some p) (h2:X[j]? = some q):¬(q.1=p.1/\q.2=p.2):=by
  rcases Nat.lt_or_gt_of_ne hij with h | h
  · exact s_ i j hd (by rw[Nat.ble_eq];omega) h1 h2
  · exact abS (s_ j i hd (by rw[Nat.ble_eq];omega) h2 h1)
theorem dkS {X:List (Nat×Nat)} (l:List Nat) (hd:DK X) {Y:List (Nat×Nat)} (hl:dkI l=true) (hY:l.map (λi=>X[i]?)=Y.map some):DK Y:=by
  induction l generalizing Y with
  | nil=>cases Y<;>first | trivial | cases hY
  | cons i l ih=>
    cases Y with
    | nil=>cases hY
    | cons p Y=>
      simp only[List.map_cons,List.cons.injEq] at hY
      simp only[dkI,Bool.and_eq_true,List.all_eq_true] at hl
      refine⟨λq hq=>?_,ih hl.2 hY.2⟩
      have:some q∈l.map (λi=>X[i]?):=hY.2▸List.mem_map.2 ⟨q,hq,rfl⟩
      obtain⟨j,hj,hjq⟩:=List.mem_map.1 this
      exact S6 hd (λe=>by have:=hl.1 j hj;subst e;simp at this) hY.1 hjq
theorem gG {R:AV->St->Prop} {v v':AV} {S:St} {rg:Nat} {l:cq} (hrg:∀k,S rg k=none) (h:R v' S) (hv:VW v v':=by exact eVw):cN R v (stL S rg l):=ar hrg hv h
inductive Fu:Nat->Prop
  | mk {n:Nat}:Fu n
theorem Fu.dn {n:Nat} (_:Fu (n+1)):Fu n:=.mk
theorem Fu.big {n:Nat} (_:Fu (n+5000)):True:=trivial
theorem eX0 {σ:Type} {p q:σ->Prop} {z:σ} (hq:q z) (hp:p z):∃z,p z/\q z:=⟨z,hp,hq⟩
theorem eX1 {σ γ:Type} {p:σ×γ->Prop} {q:σ->Prop} {a:σ} (hq:q a) (h:∃g,p (a,g)):∃z,p z/\q z.1:=let ⟨g,h⟩:=h;⟨(a,g),h,hq⟩
theorem eXp {α β:Type} {p:α×β->Prop} (h:∃a,∃b,p (a,b)):∃g,p g:=let ⟨a,b,h⟩:=h;⟨(a,b),h⟩
structure Wr (Q:Prop):Prop where
  v:Q
theorem mI (_:True) {P:Prop} (h:P):P:=h
theorem eCa {t:Env} {S0:St} {rg:Nat} {l m:cq} {es:List (Nat×AV)} (hf:Fit t es:=by repeat (first | exact fn | apply fZ | (apply fc;exact VW.slen lzZ) | (apply fc;exact VW.nilL))) (hs:vX l m:=by repeat (first | exact sn | (apply sc;exact rfl))):EWk t (stL S0 rg l) (aw es) (stL S0 rg m):=canon hf hs
theorem wk (n:Nat) {P Q:Prop} (k:Q) (h:Fu n->Wr Q->P:=by
  intro fu q
  have hz:=h
  (first | with_reducible apply nWl | with_reducible apply nVc | with_reducible apply nVd | skip)
  repeat' (first
    | ((with_reducible apply voI);first
       | ((with_reducible apply Gb);exact eE)
       | ((with_reducible apply bT);exact eE)
       | ((with_reducible apply eFa);exact FI.fa;exact eE;focus (conv=>lhs;whnf))
       | ((with_reducible apply ab6);exact eE;exact eAt;exact TI.sz;exact TI.ag;exact rfl;exact CellI.e)
       | ((with_reducible apply Y1);exact eE;exact eAt;exact TI.sz;exact TI.ag;exact rfl)
       | ((with_reducible apply wX);exact eE;exact eE)
       | ((with_reducible apply BV);exact eE;exact eE)
       | ((with_reducible apply Pt);exact eE;exact eE)
       | ((with_reducible apply Gi);exact eE;exact eE)
       | ((with_reducible apply YD);exact eE;exact eE)
       | ((with_reducible apply Ga);exact eE;exact eE)
       | (apply acj hz;exact eE;exact eE;intro hz hz)
       | (apply abW hz;exact eE;exact eE;intro hz hz)
       | ((with_reducible apply YE);exact TI.td;exact eE)
       | ((with_reducible apply RY);exact TI.td;exact eE)
       | (apply acb hz;exact TI.td;exact eE;exact eE;exact TI.sz;decide;exact λ_=>rfl;intro hz hz)
       | (apply aca hz;exact TI.td;exact eE;exact eE;exact TI.sz;decide;intro hz hz)
       | ((with_reducible apply Y0);exact TI.sz;exact TI.ag;exact eE;exact rfl)
       | ((with_reducible apply ab4);exact TI.sz;exact TI.ag;exact eE;exact rfl;exact inferInstance)
       | ((with_reducible apply ab5);exact TI.sz;exact TI.ag;exact eE;exact rfl;exact inferInstance)
       | ((with_reducible apply eFd);exact FI.fa;exact eE;exact rfl)
       | ((with_reducible apply Y2);exact eE;exact eAt;exact TI.ag;exact TI.sz;decide;exact rfl)
       | ((with_reducible apply YZ);exact TI.ag;exact TI.sz;decide;exact eE;exact rfl;exact rfl)
       | ((with_reducible apply ab3);exact TI.sz;exact TI.ag;exact eE;exact eAt;(case ih=>exact inferInstance);exact lzO;exact rfl;exact rfl)
       | ((with_reducible apply YX);exact TI.sz;exact TI.ag;exact eE;exact eAt;(case ih=>exact inferInstance);exact lzO;exact rfl;exact inferInstance)
       | ((with_reducible apply YY);exact TI.ag;exact TI.sz;decide;exact eE;exact eAt;(case ih=>exact inferInstance);exact lzO;exact rfl;exact rfl)
       | ((with_reducible apply abX);exact eE;exact eE;exact eAt;exact TI.sz;decide;exact rfl;exact rfl;exact rfl;exact eSe)
       | ((with_reducible apply abZ);exact eE;exact eE;exact eAt;exact TI.sz;exact rfl;exact rfl;exact inferInstance;exact eSe)
       | ((with_reducible apply abY);exact eE;exact eAt;exact eE;exact TI.sz;decide;exact λ_=>rfl;exact lzO;exact rfl;exact λ_=>rfl;exact eSe)
       | ((with_reducible apply uV);exact eE)
       | ((with_reducible apply R0);exact TI.td;exact TI.td;exact eE)
       | ((with_reducible apply CV);exact eE;exact rfl;exact eG)
       | ((with_reducible apply HQ);exact eE;(first | assumption | exact rfl);exact eE)
       | ((with_reducible apply HR);exact eE;(first | assumption | exact rfl);exact eE)
       | ((with_reducible apply ab9);exact rfl;exact eE)
       | ((with_reducible apply BT);exact TI.td;exact eE;exact eE;exact rfl)
       | ((with_reducible apply BU);exact TI.td;exact eE;exact eE;exact rfl)
       | ((with_reducible apply ab7);exact TI.td;exact eE;exact eE;exact rfl)
       | ((with_reducible apply ab8);exact TI.td;exact eE;exact eE;exact rfl)
       | ((with_reducible apply RS);exact eE)
       | ((with_reducible apply RT);exact eE)
       | ((with_reducible apply aci);exact eE;exact rfl;exact eN;decide;intro gz)
       | ((with_reducible apply HT);exact ZI.z;exact ZI.ok;exact eN;intro gz)
       | (apply ab2 hz;exact eE;exact eE;intro hz hz)
       | ((with_reducible apply Pu);exact eE;exact eE)
       | ((with_reducible apply Po);exact eE;exact eE)
       | ((with_reducible apply Pr);exact eE;exact eE)
       | ((with_reducible apply YH);exact eE;exact eE)
       | ((with_reducible apply YC);exact eE;exact eE)
       | ((with_reducible apply YB);exact eE;exact eE)
       | ((with_reducible apply Gm);exact eE;exact eE)
       | ((with_reducible apply uT);exact eE;exact eE;decide)
       | ((with_reducible apply wW);exact eE;exact eE;decide)
       | ((with_reducible apply Pp);exact eE)
       | ((with_reducible apply RZ);exact TI.td;exact eE;exact eE)
       | ((with_reducible apply RU);exact TI.td;exact eE;exact eE)
       | ((with_reducible apply Gc);exact eE;exact eE)
       | ((with_reducible apply Ps);exact eE;exact eE))
    | (replace fu:=Fu.dn fu;first
       | (with_reducible apply eC rg)
       | (with_reducible apply qZ)
       | (with_reducible apply rZ)
       | (with_reducible apply nZ)
       | (with_reducible apply kZ)
       | (with_reducible apply bZ)
       | (with_reducible apply xsZ)
       | ((with_reducible apply xnZ);exact rfl)
       | ((with_reducible apply eGT);exact rfl;exact eE';(first | assumption | exact rfl))
       | ((with_reducible apply eGF);exact rfl;exact eE';(first | assumption | exact rfl);exact rfl)
       | ((with_reducible apply eGU);exact rfl;exact eE')
       | (with_reducible apply eC0 rg)
       | ((with_reducible apply eDP);exact rfl;exact rfl)
       | ((with_reducible apply eDL);exact rfl;(first | exact fpL eE | exact fpS eE | exact(rfl:_=([],[(_,_)])));simp;exact eCf)
       | ((with_reducible apply acd);exact rfl;exact rfl)
       | ((with_reducible apply ace);exact rfl;exact fpS eE;simp;exact eCf)
       | (with_reducible apply dN)
       | ((with_reducible apply acg);exact rfl;exact eE';(first | assumption | exact rfl))
       | ((with_reducible apply ach);exact rfl;exact eE';(first | assumption | exact rfl);exact rfl)
       | ((with_reducible apply acf);exact rfl;exact eE'))
    | ((with_reducible apply mI (Fu.big fu));first
       | (with_reducible apply uZ)
       | (with_reducible apply eRq)
       | ((with_reducible apply aj);apply evK;exact eE')
       | (with_reducible apply aq)
       | ((with_reducible apply ab0);apply evK;exact eE';exact eAt;exact TI.ag;exact TI.sz;decide;exact rfl)
       | ((with_reducible apply ab1);apply evK;exact eE';exact eAt;exact TI.sz;exact TI.ag;exact rfl)
       | exact gG hrg (hQ _ hz)
       | exact gG hrg (hQ _ _ hz)
       | exact gG hrg (hQ hz)
       | exact gG hrg (hQ _ _ _ hz)
       | exact gG (hfr _ rfl) (hQ _ hz)
       | exact gG (hfr _ rfl) (hQ _ _ hz)
       | exact gG (hfr _ rfl) (hQ _ _ _ hz)
       | exact gG (hfr _ rfl) (hQ _ _ _ _ hz)
       | exact gG (hfr _ rfl) (hQ _ _ _ _ _ hz)
       | exact gG (hfr _ rfl) (hQ _ _ _ _ _ _ hz)
       | exact gG (hfr _ rfl) (hQ hz)
       | ((first | (apply eX1 hz;repeat (first | (with_reducible apply eXp) | (with_reducible apply Exists.intro))) | apply eX0 hz);(try dsimp only);refine canon ?_ ?_;(focus (repeat (first | exact fn | apply fZ | (apply fc;exact VW.slen lzZ) | (apply fc;exact VW.nilL))));(focus (repeat (first | exact sn | (apply sc;exact rfl)))))
       | ((apply cZ hz;exact eE)<;>intro hz hz)
       | ((apply egt hz;exact rfl;exact eE')<;>intro hz hz)
       | ((apply egf hz;exact rfl;exact eE')<;>intro hz hz)
       | ((with_reducible apply Vc.drawn' mixed rg (λ_=>iV));exact krZ)))
  all_goals (repeat revert hz)
  all_goals (repeat revert gz)
  all_goals exact q.v):P:=h .mk ⟨k⟩
end Go.Gg
