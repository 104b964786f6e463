/- Walks of functions. Conditions: none. -/
import Derived.Test.YtbnjpdocceckeaaGreatWa
import Derived.Test.YtbnjpdocceckeaaGreatGgTy
import Derived.Test.YtbnjpdocceckeaaGreatGj
import Derived.Test.YtbnjpdocceckeaaGreatGd
import Derived.Test.YtbnjpdocceckeaaGreatK1
set_option linter.all false
namespace Go.Proofs.YtbnjpdocceckeaaGreat
open Go.Gg Tryz
set_option maxRecDepth 100000
set_option maxHeartbeats 2000000
variable{S:St}{R:AV->St->Prop}
variable{r:Grow}{f:GFormula}
theorem fL{arg:Int}{Q:Grow->Prop}(h:dQ r f arg Q)(L:∀r1,Q r1->R (bf r1) S) :Ctr prog 60 [bf r,aD f,iZ arg] S R:=by
 refine ar func60 rfl ntmps60 results60 Ql (λW H=>?_);refine wk 14 λg1 g2 g3 h=>?_;refine cZ h O (λB h=>?_) (λB h=>?_)
 ·refine qZ<|Qp h (λG h=>Vc.Qf mixed W (λ_=>eo) Ql ?_);refine wk 3 λh=>?_
  refine dP O O<|lz O O G ?_;refine wk 6 λh=>?_
  refine aj<|br (aZ 3 O) db dZ jJ O O (v:=.agg [iZ (bits .or .i64 r.events<|1*2^(Int.toNat arg)),.int .u64 r.nodes.1,.int .u64 r.nodes.2]) O ?_;refine wk 2 λh=>?_
  exact uZ<|bn (aZ 6 O) db dZ jJ O O (v:=.agg [iZ (bits .or .i64 r.events<|1*2^(Int.toNat arg)),.int .u64 r.nodes.1,.int .u64 r.nodes.2]) O (am<|Tl H<|L _ h)
 refine wk 10 λh G1 h=>?_;refine Qp h (λG2 h=>Wc h (λB1 h=>?_) (λB1 h=>?_))
 ·refine Qp h (λG3 h=>Vc.Qf mixed W (λ_=>eo) Ql ?_);refine wk 1 λh=>?_
  refine dP O O<|uY O O ⟨by decide,G2⟩<|dP O O<|yN tk O<|dP O O<|gu px pA dZ O O (c:=0) (by simpa using B1) dZ (off':=1) O ?_;refine wk 2 λh=>?_
  refine dP O O<|sI O O dZ<|dP O O<|wg O O G3 ?_;refine wk 2 λh=>?_
  refine dP O O<|gu px pA dZ O O (c:=0) (by simpa using B1) dZ (off':=1) O ?_;refine wk 4 λh=>?_
  refine aj<|br (aZ 3 O) db dZ jJ O O (v:=.agg [iZ r.events,.int .u64 (bits .or .u64 r.nodes.1<|IntKind.wrap .u64<|1*2^(Int.toNat<|Int.tmod (arg-f.Y) 64)),.int .u64 r.nodes.2]) O ?_;refine wk 2 λh=>?_
  exact uZ<|bn (aZ 6 O) db dZ jJ O O (v:=.agg [iZ r.events,.int .u64 (bits .or .u64 r.nodes.1<|IntKind.wrap .u64<|1*2^(Int.toNat<|Int.tmod (arg-f.Y) 64)),.int .u64 r.nodes.2]) O (am<|Tl H<|L _ h)
 refine Wc h (λB2 h=>?_) (λB2 h=>?_)
 ·refine Qp h (λG4 h=>Vc.Qf mixed W (λ_=>eo) Ql ?_);refine wk 1 λh=>?_
  refine dP O O<|uY O O ⟨by decide,G2⟩<|dP O O<|yN tk O<|dP O O<|gu px pA dZ O O (c:=1) (by simpa using B2) dZ (off':=2) O ?_;refine wk 2 λh=>?_
  refine dP O O<|sI O O dZ<|dP O O<|wg O O G4 ?_;refine wk 2 λh=>?_
  refine dP O O<|gu px pA dZ O O (c:=1) (by simpa using B2) dZ (off':=2) O ?_;refine wk 4 λh=>?_
  refine aj<|br (aZ 3 O) db dZ jJ O O (v:=.agg [iZ r.events,.int .u64 r.nodes.1,.int .u64 (bits .or .u64 r.nodes.2<|IntKind.wrap .u64<|1*2^(Int.toNat<|Int.tmod (arg-f.Y) 64))]) O ?_;refine wk 2 λh=>?_
  exact uZ<|bn (aZ 6 O) db dZ jJ O O (v:=.agg [iZ r.events,.int .u64 r.nodes.1,.int .u64 (bits .or .u64 r.nodes.2<|IntKind.wrap .u64<|1*2^(Int.toNat<|Int.tmod (arg-f.Y) 64))]) O (am<|Tl H<|L _ h)
 exact h.elim
variable{l:List Grow}
theorem qW{Q:Int->Prop}(h:jB l Q)(L:∀r1,Q r1->R (iZ r1) S) :Ctr prog 61 [eL bf l] S R:=by
 refine ar func61 rfl ntmps61 results61 Ql (λW H=>?_);refine wk 16 λh=>?_
 refine Rf h (λy=>aC [(3,iZ y.1),(7,eL bf l),(8,iZ (l.length:Int)),(9,iZ y.2)]) (λy=>Qr S W []) Rj (λy _ h=>?_);obtain⟨out,x⟩:=y;refine wk 5 λh=>?_
 refine cZ h O (λB h=>?_) (λB h=>?_)
 ·refine wk 6 λh G h=>?_;refine aj<|rt db dZ jJ O O (v:=bf (P9 l x)) O ?_
  refine wk 8 λg1 h=>?_;refine Rf h (λy=>aC [(3,iZ out),(5,.ptr W 5 g1 0 0),(6,iZ y),(7,eL bf l),(8,iZ (l.length:Int)),(9,iZ x)]) (λy=>Qr S W [(5,.arr 3 [bf (P9 l x)],g1)]) Rj (λk1 _ h=>?_);refine wk 6 λh=>?_
  refine cZ h O (λB1 h=>?_) (λB1 h=>?_)
  ·refine wk 7 λh=>?_
   refine Wc h (λB2 h=>?_) (λB2 h=>?_)
   ·refine aj<|gu px pA dZ O O (c:=0) (by simpa using B2) dZ (off':=1) O ?_;refine wk 3 λh=>?_
    refine cZ h O (λB3 h=>?_) (λB3 h=>?_)
    ·refine wk 7 λh G1 h=>?_;refine aj<|gu px pA dZ O O (c:=0) (by simpa using B2) dZ (off':=1) O ?_
     refine wk 1 λh=>?_
     refine aj<|Qn O<|nc h λr h=>?_
     refine wk 5 λh G2 h G3 h=>?_;refine xnZ O<|rC ?_
     exact wk 9999 trivial
    exact wk 9999 trivial
   refine Wc h (λB4 h=>?_) (λB4 h=>?_)
   ·refine aj<|gu px pA dZ O O (c:=1) (by simpa using B4) dZ (off':=2) O ?_;refine wk 3 λh=>?_
    refine cZ h O (λB5 h=>?_) (λB5 h=>?_)
    ·refine wk 7 λh G6 h=>?_;refine aj<|gu px pA dZ O O (c:=1) (by simpa using B4) dZ (off':=2) O ?_
     refine wk 1 λh=>?_
     refine aj<|Qn O<|nc h λr1 h=>?_
     refine wk 5 λh G7 h G8 h=>?_;refine xnZ O<|rC ?_
     exact wk 9999 trivial
    exact wk 9999 trivial
   exact h.elim
  exact wk 9999 trivial
 refine wk 6 λh=>?_
 exact uZ<|Qv H<|L _ h
variable{i:Int}
theorem qV{Q:Bool->Prop}(h:gP r i Q)(L:∀r1,Q r1->R (AV.bool r1) S) :Ctr prog 62 [bf r,iZ i] S R:=by
 refine ar func62 rfl ntmps62 results62 Ql (λW H=>?_);refine wk 8 λg1 h=>?_;refine Qp h (λG h=>aj<|uY O O ⟨by decide,G⟩<|aj<|yN tk O<|Wc h (λB h=>?_) (λB h=>?_))
 ·refine aj<|gu px pA dZ O O (c:=0) (by simpa using B) dZ (off':=1) O ?_;refine wk 2 λh=>?_
  refine aj<|sI O O dZ<|Qp h (λG1 h=>aj<|we O O G1 ?_);refine wk 4 λh=>?_
  exact uZ<|Qv H<|L _ h
 refine Wc h (λB1 h=>?_) (λB1 h=>?_)
 ·refine aj<|gu px pA dZ O O (c:=1) (by simpa using B1) dZ (off':=2) O ?_;refine wk 2 λh=>?_
  refine aj<|sI O O dZ<|Qp h (λG2 h=>aj<|we O O G2 ?_);refine wk 4 λh=>?_
  exact uZ<|Qv H<|L _ h
 exact h.elim
variable{Q:List Grow->Prop}{q0 k0 g0 q1 k1 g1:Nat}
theorem cT{u:List Grow}(K:DK [(q0,k0),(q1,k1)])(h:co r u Q)(L:∀r1,∀h1,Q r1->R (.tuple []) (Qk S [(q0,k0,.arr 1 [.sl 3 q1 k1 h1 0 r1.length],g0),(q1,k1,.arr 3 (List.map bf r1),h1)])) :Ctr prog 64 [.ptr q0 k0 g0 0 0,bf r] (Qk S [(q0,k0,.arr 1 [.sl 3 q1 k1 g1 0 u.length],g0),(q1,k1,.arr 3 (List.map bf u),g1)]) R:=by
 refine ar func64 rfl ntmps64 results64 Ql (λW H=>?_);have D:=(λ{X:cd} (_:∀k,Qk S X W k=none) (h:DX X)=>h) H K;have F:=λX' e=>aJ (X':=X') e H;have A0:=ae D H 0 rfl;have A1:=ae D H 1 rfl;refine wk 12 λg2 h=>?_;refine cZ h O (λB h=>?_) (λB h=>?_)
 ·refine Qp h (λG h=>Vc.Qf mixed W (λ_=>eo) Ql ?_);refine wk 4 λh=>?_
  refine dL (E:=([(W,3)],[])) O O Qy (Q0 RD QZ) (br (aZ 3 O) db dZ jJ O O (v:=bf r) O<|dL (E:=([],[(W,14)])) O O Qy (SL Ql<|Q0 (by simp[ct,Ne.symm A0]) QZ) (aT LD Ea vN (es:=[bf r]) O (kk:=3) O O O O O O (λg3=>dL (E:=([(W,14)],[(q1,k1)])) O O Qy QZ (dD LD Jd Ea vN (es:=u) (xs:=[r]) (enc:=bf) (P_ A1 D 1 O) QK (bS (aZ 14 O) QK) (kk:=3) O O (λ_=>O) (λ_=>O) G O (λ_=>(aI A1 D 1 O O)) (λg4=>?_)))))
  refine wk 3 λh=>?_
  exact Sy (F _ O)<|L _ _ h
 exact kZ<|Sy (F _ O)<|L _ _ h
theorem pb{Q:Grow->Prop}(h:fj r i Q)(L:∀r1,Q r1->R (bf r1) S) :Ctr prog 108 [bf r,iZ i] S R:=by
 refine ar func108 rfl ntmps108 results108 Ql (λW H=>?_);refine wk 6 λg1 g2 h=>?_;refine Qp h (λG h=>Wc h (λB h=>?_) (λB h=>?_))
 ·refine Qp h (λG1 h=>Vc.Qf mixed W (λ_=>eo) Ql ?_);refine wk 1 λh=>?_
  refine dP O O<|uY O O ⟨by decide,G⟩<|dP O O<|yN tk O<|dP O O<|gu px pA dZ O O (c:=0) (by simpa using B) dZ (off':=1) O ?_;refine wk 2 λh=>?_
  refine dP O O<|sI O O dZ<|dP O O<|wg O O G1 ?_;refine wk 2 λh=>?_
  refine dP O O<|gu px pA dZ O O (c:=0) (by simpa using B) dZ (off':=1) O ?_;refine wk 4 λh=>?_
  refine aj<|br (aZ 2 O) db dZ jJ O O (v:=.agg [iZ r.events,.int .u64 (bits .andNot .u64 r.nodes.1<|IntKind.wrap .u64<|1*2^(Int.toNat<|Int.tmod i 64)),.int .u64 r.nodes.2]) O ?_;refine wk 2 λh=>?_
  exact uZ<|bn (aZ 4 O) db dZ jJ O O (v:=.agg [iZ r.events,.int .u64 (bits .andNot .u64 r.nodes.1<|IntKind.wrap .u64<|1*2^(Int.toNat<|Int.tmod i 64)),.int .u64 r.nodes.2]) O (am<|Tl H<|L _ h)
 refine Wc h (λB1 h=>?_) (λB1 h=>?_)
 ·refine Qp h (λG2 h=>Vc.Qf mixed W (λ_=>eo) Ql ?_);refine wk 1 λh=>?_
  refine dP O O<|uY O O ⟨by decide,G⟩<|dP O O<|yN tk O<|dP O O<|gu px pA dZ O O (c:=1) (by simpa using B1) dZ (off':=2) O ?_;refine wk 2 λh=>?_
  refine dP O O<|sI O O dZ<|dP O O<|wg O O G2 ?_;refine wk 2 λh=>?_
  refine dP O O<|gu px pA dZ O O (c:=1) (by simpa using B1) dZ (off':=2) O ?_;refine wk 4 λh=>?_
  refine aj<|br (aZ 2 O) db dZ jJ O O (v:=.agg [iZ r.events,.int .u64 r.nodes.1,.int .u64 (bits .andNot .u64 r.nodes.2<|IntKind.wrap .u64<|1*2^(Int.toNat<|Int.tmod i 64))]) O ?_;refine wk 2 λh=>?_
  exact uZ<|bn (aZ 4 O) db dZ jJ O O (v:=.agg [iZ r.events,.int .u64 r.nodes.1,.int .u64 (bits .andNot .u64 r.nodes.2<|IntKind.wrap .u64<|1*2^(Int.toNat<|Int.tmod i 64))]) O (am<|Tl H<|L _ h)
 exact h.elim
variable{fu:Nat}
theorem nj:∀ {f:GFormula} {r:Grow} {args:List Int} {k2:Int} {u:List Grow} {q0 k0 g0 q1 k1 g1:Nat} (K:DK [(q0,k0),(q1,k1)]) {Q:List Grow->Prop} {S:St} {R:AV->St->Prop} (h:bq fu f r args k2 u Q) (L:∀r1,∀h1,Q r1->R (.tuple []) (Qk S [(q0,k0,.arr 1 [.sl 3 q1 k1 h1 0 r1.length],g0),(q1,k1,.arr 3 (List.map bf r1),h1)])),Ctr prog 109 [.ptr q0 k0 g0 0 0,aD f,bf r,aF args,iZ k2] (Qk S [(q0,k0,.arr 1 [.sl 3 q1 k1 g1 0 u.length],g0),(q1,k1,.arr 3 (List.map bf u),g1)]) R:=by
 induction fu with
 | zero=>
  intro f r args k2 u q0 k0 g0 q1 k1 g1 K Q S R h L;exact False.elim h
 | succ fu ih=>
 intro f r args k2 u q0 k0 g0 q1 k1 g1 K Q S R h L;rw[bq]at h;refine ar func109 rfl ntmps109 results109 Ql (λW H=>?_);have D:=(λ{X:cd} (_:∀k,Qk S X W k=none) (h:DX X)=>h) H K;have F:=λX' e=>aJ (X':=X') e H;have A0:=ae D H 0 rfl;have A1:=ae D H 1 rfl;refine wk 14 λg2 g3 h=>?_;refine T8 h O O (λB h=>?_) (λB h=>?_)
 ·refine wk 9 λh=>?_
  refine cZ h O (λB1 h=>?_) (λB1 h=>?_);·exact uZ<|Sy (F _ O)<|L _ _ h
  refine wk 7 λh=>?_
  refine cZ h O (λB2 h=>?_) (λB2 h=>?_)
  ·refine wk 3 λh=>?_
   exact aj<|br (aZ 7 O) db dZ jJ O O (v:=bf r) O<|aj<|Qn O<|bh (ac (P_ A0 D 0 O)<|ac (P_ A1 D 1 O)<|aG)<|cT (Q7 [0,1] K O O) h λu1 g4 h=>aM (aN (aN (aG)<|aI A1 D 1 O O)<|aI A0 D 0 O O)<|eT<|Sy (F _ O)<|L _ _ h
  refine kZ<|qZ<|Qp h (λG h=>?_);obtain⟨r1,C,h⟩:=h;refine Qp h (λG1 h=>Qp h (λG2 h=>?_));obtain⟨u2,C1,h⟩:=h;refine Vc.Qf mixed W (gO [(7,pc (bf r1)),(12,wc (λ_=>.tuple []) [] [(q0,k0),(q1,k1)] (λgm=>[(q0,k0,.arr 1 [.sl 3 q1 k1 (gm 0) 0 u2.length],g0),(q1,k1,.arr 3 (List.map bf u2),(gm 0))]))]) Ql ?_;refine wk 2 λh=>?_
  refine dL (E:=([(W,7)],[])) O O Qy (Q0 RD QZ) (br (aZ 7 O) db dZ jJ O O (v:=bf r) O ?_);refine wk 2 λh=>?_
  refine dP O O<|ek bW Se dZ (λ_=>O) O O G ?_;refine wk 1 λh=>?_
  refine dC (vs:=[bf r,aD f,iZ (P9 args 0)]) O (vZ<|vZ<|vZ<|vn) (λ_=>fL C (λ_ hr=>⟨by rw[hr],rfl⟩)) O ?_;refine wk 1 λh=>?_
  refine dP O O<|n_ bW Se dZ (λ_=>O) O (l:=1) (h:=(args.length:Int)) O O G1 ?_;refine wk 1 λh=>?_
  refine dP O O<|cL O O G2 ?_;refine Th (vs:=[.ptr q0 k0 g0 0 0,aD f,bf r1,aF (fV args 1 (args.length:Int)),iZ (k2-1)]) (V:=λ_=>.tuple []) (rd:=[]) (wk:=[(q0,k0),(q1,k1)]) (wr:=λgm=>[(q0,k0,.arr 1 [.sl 3 q1 k1 (gm 0) 0 u2.length],g0),(q1,k1,.arr 3 (List.map bf u2),(gm 0))]) rfl (vZ<|vZ<|vZ<|vZ<|vZ<|vn) rfl QZ Qy (λ_=>rfl) (λS' hA hB=>bh (ac (ag hB 0 rfl<|P_ A0 D 0 rfl)<|ac (ag hB 1 rfl<|P_ A1 D 1 rfl)<|aG)<|ih (Q7 [0,1] K O O) C1 (λ_ h1 he=>by obtain rfl:=he;exact⟨λi=>[h1].getD i 0,rfl,cu (cu<|aG)⟩)) (λgm=>cg (cw (cw (jg)<|aI A1 D 1 O O)<|aI A0 D 0 O O)<|dN<|Qp h (λG3 h=>?_));obtain⟨u3,C2,h⟩:=h;refine Vc.Qf mixed W (gO [(6,wc (λ_=>.tuple []) [] [(q0,k0),(q1,k1)] (λTX=>[(q0,k0,.arr 1 [.sl 3 q1 k1 (TX 0) 0 u3.length],g0),(q1,k1,.arr 3 (List.map bf u3),(TX 0))]))]) Ql ?_;refine wk 2 λh=>?_
  refine dL (E:=([(W,7)],[])) O O Qy (Q0 RD QZ) (br (aZ 7 O) db dZ jJ O O (v:=bf r) O ?_);refine wk 1 λh=>?_
  refine dP O O<|n_ bW Se dZ (λ_=>O) O (l:=1) (h:=(args.length:Int)) O O G3 ?_;refine wk 1 λh=>?_
  exact Th (vs:=[.ptr q0 k0 g0 0 0,aD f,bf r,aF (fV args 1 (args.length:Int)),iZ k2]) (V:=λ_=>.tuple []) (rd:=[]) (wk:=[(q0,k0),(q1,k1)]) (wr:=λTX=>[(q0,k0,.arr 1 [.sl 3 q1 k1 (TX 0) 0 u3.length],g0),(q1,k1,.arr 3 (List.map bf u3),(TX 0))]) rfl (vZ<|vZ<|vZ<|vZ<|vZ<|vn) rfl QZ Qy (λ_=>rfl) (λS' hA hB=>bh (ac (ag hB 0 rfl<|P_ A0 D 0 rfl)<|ac (ag hB 1 rfl<|P_ A1 D 1 rfl)<|aG)<|ih (Q7 [0,1] K O O) C2 (λ_ h1 he=>by obtain rfl:=he;exact⟨λi=>[h1].getD i 0,rfl,cu (cu<|aG)⟩)) (λTX=>cg (cw (cw (jg)<|aI A1 D 1 O O)<|aI A0 D 0 O O)<|dN<|Sy (F _ O)<|L _ _ h)
 refine wk 5 λh=>?_
 exact U_ O O<|uZ<|Sy (F _ O)<|L _ _ h
theorem mG{u:List Grow}(K:DK [(q0,k0),(q1,k1)])(h:fz f r i u Q)(L:∀r1,∀h1,Q r1->R (.tuple []) (Qk S [(q0,k0,.arr 1 [.sl 3 q1 k1 h1 0 r1.length],g0),(q1,k1,.arr 3 (List.map bf r1),h1)])) :Ctr prog 63 [.ptr q0 k0 g0 0 0,aD f,bf r,iZ i] (Qk S [(q0,k0,.arr 1 [.sl 3 q1 k1 g1 0 u.length],g0),(q1,k1,.arr 3 (List.map bf u),g1)]) R:=by
 refine ar func63 rfl ntmps63 results63 Ql (λW H=>?_);have D:=(λ{X:cd} (_:∀k,Qk S X W k=none) (h:DX X)=>h) H K;have F:=λX' e=>aJ (X':=X') e H;have A0:=ae D H 0 rfl;have A1:=ae D H 1 rfl;refine wk 17 λg2 g3 g4 h G h=>?_;refine aj<|br (aZ 6 O) db dZ jJ O O (v:=bf r) O<|Uk (iZ i) O<|aj<|Qn O<|pb h λr1 h=>?_
 refine wk 13 λh=>?_
 refine cZ h O (λB h=>?_) (λB h=>?_)
 ·refine wk 6 λh=>?_
  refine cZ h O (λB1 h=>?_) (λB1 h=>?_)
  ·refine wk 2 λh=>?_
   exact aj<|br (aZ 6 O) db dZ jJ O O (v:=bf r1) O<|aj<|Qn O<|bh (ac (P_ A0 D 0 O)<|ac (P_ A1 D 1 O)<|aG)<|cT (Q7 [0,1] K O O) h λu1 g5 h=>aM (aN (aN (aG)<|aI A1 D 1 O O)<|aI A0 D 0 O O)<|nZ<|Sy (F _ O)<|L _ _ h
  exact kZ<|Sy (F _ O)<|L _ _ h
 refine wk 5 λh=>?_
 refine cZ h O (λB2 h=>?_) (λB2 h=>?_)
 ·refine wk 9 λh=>?_
  refine Rf h (λy=>aC [(0,.ptr q0 k0 g0 0 0),(5,.ptr W 5 g2 0 0),(6,.ptr W 6 g3 0 0),(42,aF ((P9 f.N i).Z)),(43,iZ (((P9 f.N i).Z).length:Int)),(44,iZ y.1)]) (λy=>Qr (Qk S [(q0,k0,.arr 1 [.sl 3 q1 k1 g1 0 u.length],g0),(q1,k1,.arr 3 (List.map bf u),g1)]) W [(5,.arr 3 [aD f],g2),(6,.arr 3 [bf y.2],g3)]) Rj (λy _ h=>?_);obtain⟨x,x1⟩:=y;refine wk 5 λh=>?_
  refine cZ h O (λB3 h=>?_) (λB3 h=>?_)
  ·refine wk 10 λh G1 h=>?_;refine aj<|br (aZ 6 O) db dZ jJ O O (v:=bf x1) O ?_
   refine wk 2 λh=>?_
   refine aj<|Qn O<|fL h λr2 h=>?_
   exact wk 9999 trivial
  refine wk 3 λh=>?_
  exact aj<|br (aZ 6 O) db dZ jJ O O (v:=bf x1) O<|aj<|Qn O<|bh (ac (P_ A0 D 0 O)<|ac (P_ A1 D 1 O)<|aG)<|cT (Q7 [0,1] K O O) h λu2 g6 h=>aM (aN (aN (aG)<|aI A1 D 1 O O)<|aI A0 D 0 O O)<|nZ<|Sy (F _ O)<|L _ _ h
 refine wk 5 λh=>?_
 refine cZ h O (λB4 h=>?_) (λB4 h=>?_)
 ·refine wk 8 λh=>?_
  refine SB h g1 (λy=>aC [(0,.ptr q0 k0 g0 0 0),(5,.ptr W 5 g2 0 0),(6,.ptr W 6 g3 0 0),(59,aF ((P9 f.N i).Z)),(60,iZ (((P9 f.N i).Z).length:Int)),(61,iZ y.1.1)]) (λy=>Qr (Qk S [(q0,k0,.arr 1 [.sl 3 q1 k1 y.2 0 y.1.2.length],g0),(q1,k1,.arr 3 (List.map bf y.1.2),y.2)]) W [(5,.arr 3 [aD f],g2),(6,.arr 3 [bf r1],g3)]) Rj (λy _ h=>?_);obtain⟨⟨x2,x3⟩,g7⟩:=y;refine wk 5 λh=>?_
  refine cZ h O (λB5 h=>?_) (λB5 h=>?_)
  ·refine wk 11 λh G3 h=>?_;refine aj<|br (aZ 6 O) db dZ jJ O O (v:=bf r1) O ?_
   refine wk 2 λh=>?_
   refine aj<|Qn O<|fL h λr3 h=>aj<|Qn O<|bh (ac (P_ A0 D 0 O)<|ac (P_ A1 D 1 O)<|aG)<|cT (Q7 [0,1] K O O) h λu3 g8 h=>aM (aN (aN (aG)<|aI A1 D 1 O O)<|aI A0 D 0 O O) ?_
   exact wk 9999 trivial
  exact VB<|Sy (F _ O)<|L _ _ h
 refine wk 3 λh=>?_
 refine aj<|br (aZ 6 O) db dZ jJ O O (v:=bf r1) O ?_;refine wk 4 λh=>?_
 obtain⟨_,h⟩:=h;exact aj<|Qn O<|bh (ac (P_ A0 D 0 O)<|ac (P_ A1 D 1 O)<|aG)<|nj (Q7 [0,1] K O O) h λu4 g9 h=>aM (aN (aN (aG)<|aI A1 D 1 O O)<|aI A0 D 0 O O)<|nZ<|Sy (F _ O)<|L _ _ h
theorem kX{Q:Int->Prop}(h:gi r Q)(L:∀r1,Q r1->R (iZ r1) S) :Ctr prog 113 [bf r] S R:=by
 refine ar func113 rfl ntmps113 results113 Ql (λW H=>?_);refine wk 6 λg1 h=>?_;obtain⟨r1,C,h⟩:=h;obtain⟨r2,C1,h⟩:=h;refine Qp h (λG h=>?_);obtain⟨r3,C2,h⟩:=h;refine Qp h (λG1 h=>Vc.Qf mixed W (gO [(2,pc (iZ r1)),(6,pc (iZ r2)),(11,pc (iZ r3))]) Ql ?_);refine wk 2 λh=>?_
 refine dC (vs:=[iZ r.events]) O (vZ<|vn) (λ_=>xL C (λ_ hr=>⟨by rw[hr],rfl⟩)) O<|dP O O<|yN tk O<|dP O O<|gu px pA dZ O O (c:=0) O dZ (off':=1) O ?_;refine wk 1 λh=>?_
 refine dC (vs:=[AV.int .u64 r.nodes.1]) O (vZ<|vn) (λ_=>fQ C1 (λ_ hr=>⟨by rw[hr],rfl⟩)) O<|dP O O<|i_ O O G<|dP O O<|yN tk O<|dP O O<|gu px pA dZ O O (c:=1) O dZ (off':=2) O ?_;refine wk 1 λh=>?_
 refine dC (vs:=[AV.int .u64 r.nodes.2]) O (vZ<|vn) (λ_=>fQ C2 (λ_ hr=>⟨by rw[hr],rfl⟩)) O<|dP O O<|i_ O O G1 ?_;refine wk 2 λh=>?_
 exact uZ<|Qv H<|L _ h
theorem gl{a b:Grow}{Q:Int->Prop}(h:dH a b Q)(L:∀r1,Q r1->R (iZ r1) S):Ctr prog 112 [bf a,bf b] S R:=by
 refine ar func112 rfl ntmps112 results112 Ql (λW H=>?_);refine wk 7 λg1 g2 h=>?_;obtain⟨r,C,h⟩:=h;obtain⟨r1,C1,h⟩:=h;refine Qp h (λG h=>Vc.Qf mixed W (gO [(1,pc (iZ r)),(3,pc (iZ r1))]) Ql<|dL (E:=([(W,2)],[])) O O Qy QZ (br (aZ 2 O) db dZ jJ O O (v:=bf a) O<|dC (vs:=[bf a]) O (vZ<|vn) (λ_=>kX C (λ_ hr=>⟨by rw[hr],rfl⟩)) O<|dL (E:=([(W,3)],[])) O O Qy (Q0 RD QZ) (br (aZ 3 O) db dZ jJ O O (v:=bf b) O<|dC (vs:=[bf b]) O (vZ<|vn) (λ_=>kX C1 (λ_ hr=>⟨by rw[hr],rfl⟩)) O<|dP O O<|cL O O G ?_)));refine wk 2 λh=>?_
 exact uZ<|Qv H<|L _ h
theorem qM{s:Grow}{Q:Bool->Prop}(h:gk r s Q)(L:∀r1,Q r1->R (AV.bool r1) S) :Ctr prog 116 [bf r,bf s] S R:=by
 refine ar func116 rfl ntmps116 results116 Ql (λW H=>?_);refine wk 15 λg1 g2 h=>?_;refine Te h O O (λB h=>?_) (λB h=>?_)
 ·refine wk 2 λh=>?_
  refine aj<|gu px pA dZ O O (c:=0) O dZ (off':=1) O ?_;refine wk 5 λh=>?_
  refine aj<|gu px pA dZ O O (c:=0) O dZ (off':=1) O ?_;refine wk 8 λh=>?_
  refine Te h O O (λB1 h=>?_) (λB1 h=>?_)
  ·refine wk 2 λh=>?_
   refine aj<|gu px pA dZ O O (c:=1) O dZ (off':=2) O ?_;refine wk 5 λh=>?_
   refine aj<|gu px pA dZ O O (c:=1) O dZ (off':=2) O ?_;refine wk 9 λh=>?_
   exact uZ<|Qv H<|L _ h
  refine wk 10 λh=>?_
  exact uZ<|Qv H<|L _ h
 refine wk 20 λh=>?_
 exact uZ<|Qv H<|L _ h
variable{u:Grow}
theorem qd{s:Grow}(K:DK [(q0,k0)]){Q:Bool->Prop}(h:mn s u Q)(L:∀r1,Q r1->R (AV.bool r1) (Qk S [(q0,k0,.arr 3 [bf u],g0)])) :Ctr prog 115 [bf s,.ptr q0 k0 g0 0 0] (Qk S [(q0,k0,.arr 3 [bf u],g0)]) R:=by refine ar func115 rfl ntmps115 results115 Ql (λW H=>?_);have D:=(λ{X:cd} (_:∀k,Qk S X W k=none) (h:DX X)=>h) H K;have F:=λX' e=>aJ (X':=X') e H;have A0:=ae D H 0 rfl;refine wk 7 λg1 h=>?_;exact aj<|br (aZ 2 O) db dZ jJ O O (v:=bf s) O<|aj<|br (P_ A0 D 0 O) db dZ jJ O O (v:=bf u) O<|aj<|Qn O<|qM h λr h=>RJ (.bool r) O<|eT<|Qv (F _ O)<|L _ h
variable{data:List Grow}{a b:Int}
theorem cY(K:DK [(q0,k0)])(h:bG a b data Q)(L:∀r1,Q r1->R (.tuple []) (Qk S [(q0,k0,.arr 3 (List.map bf r1),g0)])) :Ctr prog 203 [.sl 3 q0 k0 g0 0 data.length,iZ a,iZ b,.fn (.func 112) [] []] (Qk S [(q0,k0,.arr 3 (List.map bf data),g0)]) R:=by
 refine ar func203 rfl ntmps203 results203 Ql (λW H=>?_);have D:=(λ{X:cd} (_:∀k,Qk S X W k=none) (h:DX X)=>h) H K;have F:=λX' e=>aJ (X':=X') e H;have A0:=ae D H 0 rfl;refine wk 7 λh G h=>?_;refine Rf h (λy=>aC [(0,.sl 3 q0 k0 g0 0 y.2.length),(1,iZ a),(2,iZ b),(3,.fn (.func 112) [] []),(8,iZ y.1)]) (λy=>Qr (Qk S [(q0,k0,.arr 3 (List.map bf y.2),g0)]) W []) Rj (λy _ h=>?_);obtain⟨i,QA⟩:=y;refine wk 7 λh=>?_
 refine cZ h O (λB h=>?_) (λB h=>?_)
 ·refine wk 9 λh=>?_
  refine Rf h (λy=>aC [(0,.sl 3 q0 k0 g0 0 y.2.length),(1,iZ a),(2,iZ b),(3,.fn (.func 112) [] []),(8,iZ i),(9,iZ y.1)]) (λy=>Qr (Qk S [(q0,k0,.arr 3 (List.map bf y.2),g0)]) W []) Rj (λy _ h=>?_);obtain⟨j,Qx⟩:=y;refine qZ<|qZ<|Wc h (λB1 h=>?_) (λB1 h=>?_)
  ·refine Qp h (λJ h=>Qp h (λG1 h=>Qp h (λJ1 h=>?_)));obtain⟨r,C,h⟩:=h;refine Vc.Qf mixed W (gO [(14,pc (iZ r))]) Ql ?_;refine wk 11 λh=>?_
   refine dP O O<|aV jV db dZ O O J ?_;refine wk 7 λh=>?_
   refine dP O O<|cL O O G1<|Zs O O O<|dP O O<|aV jV db dZ O O J1 ?_;refine wk 3 λh=>?_
   refine dC (vs:=[bf (P9 Qx j),bf (P9 Qx<|j-1)]) O (vZ<|vZ<|vn) (λ_=>gl C (λ_ hr=>⟨by rw[hr],rfl⟩)) O ?_;refine wk 4 λh=>?_
   refine cZ h O (λB2 h=>?_) (λB2 h=>?_)
   ·refine kZ<|qZ<|bZ<|Qp h (λG2 h=>Qp h (λG3 h=>Qp h (λJ2 h=>Qp h (λJ3 h=>Qp h (λJ4 h=>Qp h (λJ5 h=>Vc.Qf mixed W (λ_=>eo) Ql ?_))))));refine wk 4 λh=>?_
    refine dP O O<|cL O O G2 ?_;refine wk 2 λh=>?_
    refine dP O O<|cL O O G3<|dP O O<|aV jV db dZ O O J2 ?_;refine wk 3 λh=>?_
    refine dP O O<|aV jV db dZ O O J3 ?_;refine wk 1 λh=>?_
    refine dP O O<|aV jV db dZ O O J4<|dL (E:=([],[(q0,k0)])) O O Qy QZ (ig (P_ A0 D 0 O) db dZ (x':=(P9 Qx<|j-1)) (λ_=>O) O O (oT J4 QK) O O (aI A0 D 0 O O)<|dP O O<|aV jV db dZ O O J5<|dL (E:=([],[(q0,k0)])) O O Qy QZ (ig (P_ A0 D 0 O) db dZ (x':=(P9 Qx j)) (λ_=>O) O O (oT J5 QK) O O (aI A0 D 0 O O) ?_));exact wk 9999 trivial
   exact wk 9999 trivial
  refine Vc.Qf mixed W (λ_=>eo) Ql ?_;refine wk 18 λh=>?_
  refine Yo O O ?_;exact wk 9999 trivial
 exact VB<|Sy (F _ O)<|L _ h
variable{n:Int}
theorem cB(K:DK [(q0,k0)])(h:bz a b n data Q)(L:∀r1,Q r1->R (.tuple []) (Qk S [(q0,k0,.arr 3 (List.map bf r1),g0)])) :Ctr prog 225 [.sl 3 q0 k0 g0 0 data.length,iZ a,iZ b,iZ n,.fn (.func 112) [] []] (Qk S [(q0,k0,.arr 3 (List.map bf data),g0)]) R:=by
 refine ar func225 rfl ntmps225 results225 Ql (λW H=>?_);have D:=(λ{X:cd} (_:∀k,Qk S X W k=none) (h:DX X)=>h) H K;have F:=λX' e=>aJ (X':=X') e H;have A0:=ae D H 0 rfl;refine wk 5 λh=>?_
 refine Rf h (λy=>aC [(0,.sl 3 q0 k0 g0 0 y.2.length),(1,iZ a),(2,iZ b),(3,iZ n),(10,iZ y.1)]) (λy=>Qr (Qk S [(q0,k0,.arr 3 (List.map bf y.2),g0)]) W []) Rj (λy _ h=>?_);obtain⟨i,QA⟩:=y;refine wk 7 λh=>?_
 refine cZ h O (λB h=>?_) (λB h=>?_)
 ·refine kZ<|qZ<|bZ<|Qp h (λG h=>Qp h (λG1 h=>Qp h (λG2 h=>Qp h (λJ h=>Qp h (λG3 h=>Qp h (λJ1 h=>Qp h (λJ2 h=>Qp h (λJ3 h=>Vc.Qf mixed W (λ_=>eo) Ql ?_))))))));refine wk 3 λh=>?_
  refine dP O O<|i_ O O G ?_;refine wk 3 λh=>?_
  refine dP O O<|i_ O O G1 ?_;refine wk 3 λh=>?_
  refine dP O O<|i_ O O G2<|dP O O<|aV jV db dZ O O J ?_;refine wk 4 λh=>?_
  refine dP O O<|i_ O O G3<|dP O O<|aV jV db dZ O O J1 ?_;refine wk 1 λh=>?_
  refine dP O O<|aV jV db dZ O O J2<|dL (E:=([],[(q0,k0)])) O O Qy QZ (ig (P_ A0 D 0 O) db dZ (x':=(P9 QA<|b+i)) (λ_=>O) O O (oT J2 QK) O O (aI A0 D 0 O O)<|dP O O<|aV jV db dZ O O J3<|dL (E:=([],[(q0,k0)])) O O Qy QZ (ig (P_ A0 D 0 O) db dZ (x':=(P9 QA<|a+i)) (λ_=>O) O O (oT J3 QK) O O (aI A0 D 0 O O) ?_));exact wk 9999 trivial
 exact VB<|Sy (F _ O)<|L _ h
theorem ir{m:Int}(K:DK [(q0,k0)])(h:b_ a m b data Q)(L:∀r1,Q r1->R (.tuple []) (Qk S [(q0,k0,.arr 3 (List.map bf r1),g0)])) :Ctr prog 220 [.sl 3 q0 k0 g0 0 data.length,iZ a,iZ m,iZ b,.fn (.func 112) [] []] (Qk S [(q0,k0,.arr 3 (List.map bf data),g0)]) R:=by
 refine ar func220 rfl ntmps220 results220 Ql (λW H=>?_);have D:=(λ{X:cd} (_:∀k,Qk S X W k=none) (h:DX X)=>h) H K;have F:=λX' e=>aJ (X':=X') e H;have A0:=ae D H 0 rfl;refine wk 16 λh G h G1 h=>?_;refine Rf h (λy=>aC [(0,.sl 3 q0 k0 g0 0 y.2.2.length),(2,iZ m),(4,.fn (.func 112) [] []),(10,iZ y.1),(11,iZ y.2.1)]) (λy=>Qr (Qk S [(q0,k0,.arr 3 (List.map bf y.2.2),g0)]) W []) Rj (λy _ h=>?_);obtain⟨i,j,QA⟩:=y;refine wk 7 λh=>?_
 refine cZ h O (λB h=>?_) (λB h=>?_)
 ·refine wk 8 λh=>?_
  refine cZ h O (λB1 h=>?_) (λB1 h=>?_)
  ·refine wk 9 λh G2 h=>?_;refine aj<|Qn O<|bh (ac (P_ A0 D 0 O)<|aG)<|cB Sk h λQx h=>aM (aN (aG)<|aI A0 D 0 O O)<|Qp h (λhl h=>?_)
   exact wk 9999 trivial
  refine wk 13 λh G4 h G5 h G6 h=>?_;refine aj<|Qn O<|bh (ac (P_ A0 D 0 O)<|aG)<|cB Sk h λRc h=>aM (aN (aG)<|aI A0 D 0 O O)<|Qp h (λTk h=>?_)
  exact wk 9999 trivial
 refine wk 9 λh G8 h=>?_;exact aj<|Qn O<|bh (ac (P_ A0 D 0 O)<|aG)<|cB Sk h λRQ h=>aM (aN (aG)<|aI A0 D 0 O O)<|Qp h (λSS h=>nZ<|Sy (F _ O)<|L _ h)
theorem dS:∀ {a:Int} {m:Int} {b:Int} {data:List Grow} {q0 k0 g0:Nat} (K:DK [(q0,k0)]) {Q:List Grow->Prop} {S:St} {R:AV->St->Prop} (h:aL fu a m b data Q) (L:∀r1,Q r1->R (.tuple []) (Qk S [(q0,k0,.arr 3 (List.map bf r1),g0)])),Ctr prog 204 [.sl 3 q0 k0 g0 0 data.length,iZ a,iZ m,iZ b,.fn (.func 112) [] []] (Qk S [(q0,k0,.arr 3 (List.map bf data),g0)]) R:=by
 induction fu with
 | zero=>
  intro a m b data q0 k0 g0 K Q S R h L;exact False.elim h
 | succ fu ih=>
 intro a m b data q0 k0 g0 K Q S R h L;rw[aL]at h;refine ar func204 rfl ntmps204 results204 Ql (λW H=>?_);have D:=(λ{X:cd} (_:∀k,Qk S X W k=none) (h:DX X)=>h) H K;have F:=λX' e=>aJ (X':=X') e H;have A0:=ae D H 0 rfl;refine wk 8 λh G h=>?_;refine cZ h O (λB h=>?_) (λB h=>?_)
 ·refine wk 12 λh=>?_
  refine Rf h (λy=>aC [(0,.sl 3 q0 k0 g0 0 data.length),(1,iZ a),(4,.fn (.func 112) [] []),(10,iZ y.1),(11,iZ y.2)]) (λy=>Qr (Qk S [(q0,k0,.arr 3 (List.map bf data),g0)]) W []) Rj (λy _ h=>?_);obtain⟨i,j⟩:=y;refine wk 7 λh=>?_
  refine cZ h O (λB1 h=>?_) (λB1 h=>?_)
  ·refine wk 10 λh G1 h=>?_;refine TP h (λh1 hs h=>wZ W<|bX (v:=iZ h1) (by subst hs;rfl)<|nZ<|qZ<|Qp h (λJ h=>Qp h (λJ1 h=>?_)));obtain⟨r,C,h⟩:=h;refine Vc.Qf mixed W (gO [(9,pc (iZ r))]) Ql ?_;refine wk 3 λh=>?_
   refine dP O O<|aV jV db dZ O O J ?_;refine wk 3 λh=>?_
   refine dP O O<|aV jV db dZ O O J1 ?_;refine wk 1 λh=>?_
   refine dC (vs:=[bf (P9 data h1),bf (P9 data a)]) O (vZ<|vZ<|vn) (λ_=>gl C (λ_ hr=>⟨by rw[hr],rfl⟩)) O<|dP O O<|Fv O O<|dN<|cZ h O (λB2 h=>?_) (λB2 h=>?_);·exact wk 9999 trivial
   exact wk 9999 trivial
  refine wk 8 λh=>?_
  refine Rf h (λy=>aC [(0,.sl 3 q0 k0 g0 0 y.2.length),(10,iZ i),(13,iZ y.1)]) (λy=>Qr (Qk S [(q0,k0,.arr 3 (List.map bf y.2),g0)]) W []) Rj (λy _ h=>?_);obtain⟨k1,QA⟩:=y;refine wk 8 λh G3 h=>?_;refine cZ h O (λB3 h=>?_) (λB3 h=>?_)
  ·refine kZ<|qZ<|bZ<|Qp h (λG4 h=>Qp h (λG5 h=>Qp h (λJ2 h=>Qp h (λJ3 h=>Qp h (λJ4 h=>Qp h (λJ5 h=>Vc.Qf mixed W (λ_=>eo) Ql ?_))))));refine wk 4 λh=>?_
   refine dP O O<|i_ O O G4 ?_;refine wk 2 λh=>?_
   refine dP O O<|i_ O O G5<|dP O O<|aV jV db dZ O O J2 ?_;refine wk 3 λh=>?_
   refine dP O O<|aV jV db dZ O O J3 ?_;refine wk 1 λh=>?_
   refine dP O O<|aV jV db dZ O O J4<|dL (E:=([],[(q0,k0)])) O O Qy QZ (ig (P_ A0 D 0 O) db dZ (x':=(P9 QA<|k1+1)) (λ_=>O) O O (oT J4 QK) O O (aI A0 D 0 O O)<|dP O O<|aV jV db dZ O O J5<|dL (E:=([],[(q0,k0)])) O O Qy QZ (ig (P_ A0 D 0 O) db dZ (x':=(P9 QA k1)) (λ_=>O) O O (oT J5 QK) O O (aI A0 D 0 O O) ?_));exact wk 9999 trivial
  exact VB<|uZ<|Sy (F _ O)<|L _ h
 refine wk 9 λh G7 h=>?_;refine cZ h O (λB4 h=>?_) (λB4 h=>?_)
 ·refine wk 12 λh=>?_
  refine Rf h (λy=>aC [(0,.sl 3 q0 k0 g0 0 data.length),(2,iZ m),(4,.fn (.func 112) [] []),(14,iZ y.1),(15,iZ y.2)]) (λy=>Qr (Qk S [(q0,k0,.arr 3 (List.map bf data),g0)]) W []) Rj (λy _ h=>?_);obtain⟨i1,j1⟩:=y;refine wk 7 λh=>?_
  refine cZ h O (λB5 h=>?_) (λB5 h=>?_)
  ·refine wk 10 λh G8 h=>?_;refine TP h (λh2 Wj h=>wZ W<|bX (v:=iZ h2) (by subst Wj;rfl)<|nZ<|qZ<|Qp h (λJ6 h=>Qp h (λJ7 h=>?_)));obtain⟨r1,C1,h⟩:=h;refine Vc.Qf mixed W (gO [(9,pc (iZ r1))]) Ql ?_;refine wk 3 λh=>?_
   refine dP O O<|aV jV db dZ O O J6 ?_;refine wk 3 λh=>?_
   refine dP O O<|aV jV db dZ O O J7 ?_;refine wk 1 λh=>?_
   refine dC (vs:=[bf (P9 data m),bf (P9 data h2)]) O (vZ<|vZ<|vn) (λ_=>gl C1 (λ_ hr=>⟨by rw[hr],rfl⟩)) O ?_;refine wk 3 λh=>?_
   refine cZ h O (λB6 h=>?_) (λB6 h=>?_);·exact wk 9999 trivial
   exact wk 9999 trivial
  refine wk 8 λh=>?_
  refine Rf h (λy=>aC [(0,.sl 3 q0 k0 g0 0 y.2.length),(14,iZ i1),(17,iZ y.1)]) (λy=>Qr (Qk S [(q0,k0,.arr 3 (List.map bf y.2),g0)]) W []) Rj (λy _ h=>?_);obtain⟨k2,Qx⟩:=y;refine wk 7 λh=>?_
  refine cZ h O (λB7 h=>?_) (λB7 h=>?_)
  ·refine kZ<|qZ<|bZ<|Qp h (λG10 h=>Qp h (λG11 h=>Qp h (λJ8 h=>Qp h (λJ9 h=>Qp h (λJ10 h=>Qp h (λJ11 h=>Vc.Qf mixed W (λ_=>eo) Ql ?_))))));refine wk 4 λh=>?_
   refine dP O O<|cL O O G10 ?_;refine wk 2 λh=>?_
   refine dP O O<|cL O O G11<|dP O O<|aV jV db dZ O O J8 ?_;refine wk 3 λh=>?_
   refine dP O O<|aV jV db dZ O O J9 ?_;refine wk 1 λh=>?_
   refine dP O O<|aV jV db dZ O O J10<|dL (E:=([],[(q0,k0)])) O O Qy QZ (ig (P_ A0 D 0 O) db dZ (x':=(P9 Qx<|k2-1)) (λ_=>O) O O (oT J10 QK) O O (aI A0 D 0 O O)<|dP O O<|aV jV db dZ O O J11<|dL (E:=([],[(q0,k0)])) O O Qy QZ (ig (P_ A0 D 0 O) db dZ (x':=(P9 Qx k2)) (λ_=>O) O O (oT J11 QK) O O (aI A0 D 0 O O) ?_));exact wk 9999 trivial
  exact VB<|uZ<|Sy (F _ O)<|L _ h
 refine wk 9 λh G13 h=>?_;refine TP h (λQQ TT h=>wZ W<|bX (v:=iZ QQ) (by subst TT;rfl) ?_);refine wk 13 λh G14 h=>?_;refine Uz h (λy=>aC [(0,.sl 3 q0 k0 g0 0 data.length),(1,iZ a),(2,iZ m),(3,iZ b),(4,.fn (.func 112) [] []),(18,iZ QQ),(19,iZ (QQ+m)),(20,iZ y.1),(21,iZ y.2)]) (λy=>Qr (Qk S [(q0,k0,.arr 3 (List.map bf data),g0)]) W []) (λy h=>?_) (λ_ h=>?_)
 ·obtain⟨start,r2⟩:=y;refine wk 8 λh G15 h=>?_;refine Rf h (λy=>aC [(0,.sl 3 q0 k0 g0 0 data.length),(1,iZ a),(2,iZ m),(3,iZ b),(4,.fn (.func 112) [] []),(18,iZ QQ),(19,iZ (QQ+m)),(20,iZ y.1),(21,iZ y.2),(22,iZ ((QQ+m)-1))]) (λy=>Qr (Qk S [(q0,k0,.arr 3 (List.map bf data),g0)]) W []) Rj (λy _ h=>?_);obtain⟨QX,r3⟩:=y;refine wk 7 λh=>?_
  refine cZ h O (λB8 h=>?_) (λB8 h=>?_)
  ·refine wk 10 λh G16 h=>?_;refine TP h (λc hs3 h=>wZ W<|bX (v:=iZ c) (by subst hs3;rfl)<|nZ<|qZ<|Qp h (λG17 h=>Qp h (λJ12 h=>Qp h (λJ13 h=>?_))));obtain⟨r4,C2,h⟩:=h;refine Vc.Qf mixed W (gO [(11,pc (iZ r4))]) Ql ?_;refine wk 4 λh=>?_
   refine dP O O<|cL O O G17<|dP O O<|aV jV db dZ O O J12 ?_;refine wk 3 λh=>?_
   refine dP O O<|aV jV db dZ O O J13 ?_;refine wk 1 λh=>?_
   refine dC (vs:=[bf (P9 data<|((QQ+m)-1)-c),bf (P9 data c)]) O (vZ<|vZ<|vn) (λ_=>gl C2 (λ_ hr=>⟨by rw[hr],rfl⟩)) O ?_;refine wk 3 λh=>?_
   refine cZ h O (λB9 h=>?_) (λB9 h=>?_);·exact wk 9999 trivial
   exact wk 9999 trivial
  refine wk 8 λh G19 h=>?_;refine Uz h (λy=>aC [(0,.sl 3 q0 k0 g0 0 y.length),(1,iZ a),(3,iZ b),(4,.fn (.func 112) [] []),(18,iZ QQ),(20,iZ QX),(24,iZ ((QQ+m)-QX))]) (λy=>Qr (Qk S [(q0,k0,.arr 3 (List.map bf y),g0)]) W []) (λRc h=>?_) (λ_ h=>?_)
  ·refine Uz h (λy=>aC [(0,.sl 3 q0 k0 g0 0 y.length),(3,iZ b),(4,.fn (.func 112) [] []),(18,iZ QQ),(24,iZ ((QQ+m)-QX))]) (λy=>Qr (Qk S [(q0,k0,.arr 3 (List.map bf y),g0)]) W []) (λRQ h=>?_) (λ_ h=>?_)
   ·refine Uz h (λy=>aC [(0,.sl 3 q0 k0 g0 0 RQ.length),(3,iZ b),(4,.fn (.func 112) [] []),(18,iZ QQ),(24,iZ ((QQ+m)-QX)),(213,.bool y)]) (λy=>Qr (Qk S [(q0,k0,.arr 3 (List.map bf RQ),g0)]) W []) (λx h=>?_) (λ_ h=>?_)
    ·refine cZ h O (λB10 h=>?_) (λB10 h=>?_)
     ·refine wk 6 λh=>?_
      exact aj<|Qn O<|bh (ac (P_ A0 D 0 O)<|aG)<|ih Sk h λR_ h=>aM (aN (aG)<|aI A0 D 0 O O)<|Qp h (λhl h=>nZ<|Sy (F _ O)<|L _ h)
     exact kZ<|Sy (F _ O)<|L _ h
    exact wk 9999 trivial
   refine Uz h (λy=>aC [(0,.sl 3 q0 k0 g0 0 Rc.length),(1,iZ a),(3,iZ b),(4,.fn (.func 112) [] []),(18,iZ QQ),(20,iZ QX),(24,iZ ((QQ+m)-QX)),(199,.bool y)]) (λy=>Qr (Qk S [(q0,k0,.arr 3 (List.map bf Rc),g0)]) W []) (λx1 h=>?_) (λ_ h=>?_)
   ·refine cZ h O (λB12 h=>?_) (λB12 h=>?_)
    ·refine wk 6 λh=>?_
     refine aj<|Qn O<|bh (ac (P_ A0 D 0 O)<|aG)<|ih Sk h λSl h=>aM (aN (aG)<|aI A0 D 0 O O)<|Qp h (λTk h=>?_)
     exact wk 9999 trivial
    exact wk 9999 trivial
   exact wk 9999 trivial
  refine Uz h (λy=>aC [(0,.sl 3 q0 k0 g0 0 data.length),(1,iZ a),(2,iZ m),(3,iZ b),(4,.fn (.func 112) [] []),(18,iZ QQ),(20,iZ QX),(24,iZ ((QQ+m)-QX)),(185,.bool y)]) (λy=>Qr (Qk S [(q0,k0,.arr 3 (List.map bf data),g0)]) W []) (λx2 h=>?_) (λ_ h=>?_)
  ·refine cZ h O (λYP h=>?_) (λYP h=>?_)
   ·refine wk 6 λh=>?_
    refine aj<|Qn O<|bh (ac (P_ A0 D 0 O)<|aG)<|ir Sk h λS7 h=>aM (aN (aG)<|aI A0 D 0 O O)<|Qp h (λSS h=>?_)
    exact wk 9999 trivial
   exact wk 9999 trivial
  exact wk 9999 trivial
 exact wk 9999 trivial
theorem iq(K:DK [(q0,k0)])(h:cQ n data Q)(L:∀r1,Q r1->R (.tuple []) (Qk S [(q0,k0,.arr 3 (List.map bf r1),g0)])) :Ctr prog 164 [.sl 3 q0 k0 g0 0 data.length,iZ n,.fn (.func 112) [] []] (Qk S [(q0,k0,.arr 3 (List.map bf data),g0)]) R:=by
 refine ar func164 rfl ntmps164 results164 Ql (λW H=>?_);have D:=(λ{X:cd} (_:∀k,Qk S X W k=none) (h:DX X)=>h) H K;have F:=λX' e=>aJ (X':=X') e H;have A0:=ae D H 0 rfl;refine wk 12 λh=>?_
 refine Rf h (λy=>aC [(0,.sl 3 q0 k0 g0 0 y.2.2.length),(1,iZ n),(2,.fn (.func 112) [] []),(6,iZ 20),(7,iZ y.1),(8,iZ y.2.1)]) (λy=>Qr (Qk S [(q0,k0,.arr 3 (List.map bf y.2.2),g0)]) W []) Rj (λy _ h=>?_);obtain⟨a,b,QA⟩:=y;refine wk 7 λh=>?_
 refine cZ h O (λB h=>?_) (λB h=>?_)
 ·refine wk 8 λh=>?_
  refine aj<|Qn O<|bh (ac (P_ A0 D 0 O)<|aG)<|cY Sk h λQx h=>aM (aN (aG)<|aI A0 D 0 O O)<|Qp h (λhl h=>?_)
  exact wk 9999 trivial
 refine wk 7 λh=>?_
 refine aj<|Qn O<|bh (ac (P_ A0 D 0 O)<|aG)<|cY Sk h λRc h=>aM (aN (aG)<|aI A0 D 0 O O)<|Qp h (λTk h=>nZ<|bZ<|Rf h (λy=>aC [(0,.sl 3 q0 k0 g0 0 y.2.length),(1,iZ n),(2,.fn (.func 112) [] []),(6,iZ y.1)]) (λy=>Qr (Qk S [(q0,k0,.arr 3 (List.map bf y.2),g0)]) W []) (canon (fc (VW.QO QK)<|fZ<|fZ<|fZ<|fn)<|sn) (λy _ h=>?_))
 obtain⟨Qi,RQ⟩:=y;refine wk 7 λh=>?_
 refine cZ h O (λB1 h=>?_) (λB1 h=>?_)
 ·refine wk 11 λh G1 h=>?_;refine Rf h (λy=>aC [(0,.sl 3 q0 k0 g0 0 y.2.2.length),(1,iZ n),(2,.fn (.func 112) [] []),(6,iZ Qi),(7,iZ y.1),(8,iZ y.2.1)]) (λy=>Qr (Qk S [(q0,k0,.arr 3 (List.map bf y.2.2),g0)]) W []) Rj (λy _ h=>?_);obtain⟨a1,b1,R_⟩:=y;refine wk 7 λh=>?_
  refine cZ h O (λB2 h=>?_) (λB2 h=>?_)
  ·refine wk 11 λh G2 h=>?_;obtain⟨_,h⟩:=h;refine aj<|Qn O<|bh (ac (P_ A0 D 0 O)<|aG)<|dS Sk h λSl h=>aM (aN (aG)<|aI A0 D 0 O O)<|Qp h (λSS h=>?_)
   exact wk 9999 trivial
  refine wk 15 λh G5 h=>?_;refine cZ h O (λB3 h=>?_) (λB3 h=>?_)
  ·refine wk 6 λh=>?_
   obtain⟨_,h⟩:=h;refine aj<|Qn O<|bh (ac (P_ A0 D 0 O)<|aG)<|dS Sk h λS7 h=>aM (aN (aG)<|aI A0 D 0 O O)<|Qp h (λhl3 h=>?_)
   exact wk 9999 trivial
  exact wk 9999 trivial
 exact VB<|Sy (F _ O)<|L _ h
theorem eS{x:List Grow}(K:DK [(q0,k0)])(h:bK x Q)(L:∀r1,Q r1->R (.tuple []) (Qk S [(q0,k0,.arr 3 (List.map bf r1),g0)])) :Ctr prog 111 [.sl 3 q0 k0 g0 0 x.length,.fn (.func 112) [] []] (Qk S [(q0,k0,.arr 3 (List.map bf x),g0)]) R:=by
 refine ar func111 rfl ntmps111 results111 Ql (λW H=>?_);have D:=(λ{X:cd} (_:∀k,Qk S X W k=none) (h:DX X)=>h) H K;have F:=λX' e=>aJ (X':=X') e H;have A0:=ae D H 0 rfl;refine wk 5 λh=>?_
 exact aj<|Qn O<|bh (ac (P_ A0 D 0 O)<|aG)<|iq Sk h λx1 h=>aM (aN (aG)<|aI A0 D 0 O O)<|Qp h (λhl h=>nZ<|Sy (F _ O)<|L _ h)
variable{s:List Grow}
theorem fC(K:DK [(q0,k0),(q1,k1)]){Q:Int->Prop}(h:bx s u Q)(L:∀r1,Q r1->R (iZ r1) (Qk S [(q0,k0,.arr 3 (List.map bf s),g0),(q1,k1,.arr 3 [bf u],g1)])) :Ctr prog 165 [.sl 3 q0 k0 g0 0 s.length,.fn (.func 115) [] [.ptr q1 k1 g1 0 0]] (Qk S [(q0,k0,.arr 3 (List.map bf s),g0),(q1,k1,.arr 3 [bf u],g1)]) R:=by
 refine ar func165 rfl ntmps165 results165 Ql (λW H=>?_);have D:=(λ{X:cd} (_:∀k,Qk S X W k=none) (h:DX X)=>h) H K;have F:=λX' e=>aJ (X':=X') e H;have A0:=ae D H 0 rfl;have A1:=ae D H 1 rfl;refine wk 12 λh=>?_
 refine Rf h (λy=>aC [(0,.sl 3 q0 k0 g0 0 s.length),(1,.fn (.func 115) [] [.ptr q1 k1 g1 0 0]),(7,iZ (s.length:Int)),(8,iZ y)]) (λy=>Qr (Qk S [(q0,k0,.arr 3 (List.map bf s),g0),(q1,k1,.arr 3 [bf u],g1)]) W []) Rj (λx _ h=>?_);refine wk 5 λh=>?_
 refine cZ h O (λB h=>?_) (λB h=>?_)
 ·refine wk 15 λh J h=>?_;refine aj<|Qn O<|bh (ac (P_ A1 D 1 O)<|aG)<|qd Sk h λr h=>aM (ac (P_ A1 D 1 O)<|aG)<|nZ<|cZ h O (λB1 h=>?_) (λB1 h=>?_)
  ·refine wk 5 λh=>?_
   exact uZ<|Qv (F _ O)<|L _ h
  exact wk 9999 trivial
 refine wk 5 λh=>?_
 exact uZ<|Qv (F _ O)<|L _ h
theorem fe(K:DK [(q0,k0),(q1,k1)]){Q:Bool->Prop}(h:bM s u Q)(L:∀r1,Q r1->R (AV.bool r1) (Qk S [(q0,k0,.arr 3 (List.map bf s),g0),(q1,k1,.arr 3 [bf u],g1)])) :Ctr prog 114 [.sl 3 q0 k0 g0 0 s.length,.fn (.func 115) [] [.ptr q1 k1 g1 0 0]] (Qk S [(q0,k0,.arr 3 (List.map bf s),g0),(q1,k1,.arr 3 [bf u],g1)]) R:=by
 refine ar func114 rfl ntmps114 results114 Ql (λW H=>?_);have D:=(λ{X:cd} (_:∀k,Qk S X W k=none) (h:DX X)=>h) H K;have F:=λX' e=>aJ (X':=X') e H;have A0:=ae D H 0 rfl;have A1:=ae D H 1 rfl;refine wk 8 λh=>?_
 refine aj<|Qn O<|bh (ac (P_ A0 D 0 O)<|ac (P_ A1 D 1 O)<|aG)<|fC (Q7 [0,1] K O O) h λr h=>aM (ac (P_ A0 D 0 O)<|ac (P_ A1 D 1 O)<|aG) ?_
 refine wk 3 λh=>?_
 exact uZ<|Qv (F _ O)<|L _ h
theorem tF(h:mH l Q)(L:∀r1,Q r1->R (eL bf r1) S) :Ctr prog 65 [eL bf l] S R:=by
 refine ar func65 rfl ntmps65 results65 Ql (λW H=>?_);refine wk 7 λh=>?_
 refine aj<|Qn O<|gH W 7 h λl1 g1 h=>aM bm ?_
 refine wk 5 λh=>?_
 refine aj<|Qn O<|bh (ac (aZ 7 O)<|aG)<|eS Sk h λl2 h=>aM (aN (aG) bm)<|Qp h (λhl h=>?_)
 refine wk 13 λh=>?_
 refine Vc.V6 3 23 3 O dZ (λg2=>SB h g2 (λy=>aC [(3,.sl 3 W 23 y.2 0 y.1.2.length),(10,.sl 3 W 7 g1 0 l1.length),(11,iZ (l1.length:Int)),(12,iZ y.1.1)]) (λy=>Qr S W [(7,.arr 3 (List.map bf l2),g1),(23,.arr 3 (List.map bf y.1.2),y.2)]) (canon (fc (VW.QO QK)<|fZ<|fZ<|fZ<|fn)<|sc O<|sc O<|sn) (λy _ h=>?_));obtain⟨⟨x,out⟩,g3⟩:=y;refine wk 5 λh=>?_
 refine cZ h O (λB h=>?_) (λB h=>?_)
 ·refine wk 13 λg4 h J h=>?_;refine wZ W<|gS (vs:=[]) (us:=[.ptr W 5 g4 0 0]) O O<|aj<|Qn O<|bh (ac (aZ 23 O)<|ac (aZ 5 O)<|aG)<|fe Sk h λr h=>aM (ac (aZ 23 O)<|ac (aZ 5 O)<|aG)<|aj<|qG O<|nZ<|cZ h O (λB1 h=>?_) (λB1 h=>?_)
  ·refine wk 2 λh=>?_
   refine aj<|br (aZ 5 O) db dZ jJ O O (v:=bf (P9 l2 x)) O<|wZ W<|aT jV Ea vN (es:=[bf (P9 l2 x)]) O (kk:=3) O O O O O O (λg5=>Qp h (λG h=>wZ W<|dD jV Jd Ea vN (es:=out) (xs:=[(P9 l2 x)]) (enc:=bf) (aZ 23 O) QK (bS (aZ 22 O) QK) (kk:=3) O O (λ_=>O) (λ_=>O) G O (λ_=>bm) (λg6=>?_)))
   exact wk 9999 trivial
  exact wk 9999 trivial
 refine wk 6 λh=>?_
 exact uZ<|ah (v:=.sl 3 W 23 g3 0 out.length) O<|am<|aX (k:=23) (xs:=List.map bf out) O (v':=eL bf out) (aR O)<|Tl H<|L _ h
theorem wm{Q:List Grow->List Int->Option Int->Prop}(h:lS f Q)(L:∀r1 r2 r3,Q r1 r2 r3->R (.tuple [eL bf r1,aF r2,bd 36 r3]) S) :Ctr prog 30 [aD f] S R:=by
 refine ar func30 rfl ntmps30 results30 Ql (λW H=>?_);refine wk 10 λg1 h=>?_;refine aj<|Qn O<|fg h λr r1 h=>?_
 refine wk 12 λh=>?_
 refine cZ h O (λB h=>?_) (λB h=>?_)
 ·refine wk 7 λh=>?_
  exact uZ<|ah (v:=.nil) O<|ah (v:=.nil) O<|ah (v:=bd 36 r1) O<|am<|ak H (VW.QF<|QJ (VW.QC)<|QJ (VW.QC)<|vZ<|vn)<|L _ _ _ h
 refine wk 7 λh=>?_
 refine cZ h O (λB1 h=>?_) (λB1 h=>?_)
 ·refine wk 7 λh=>?_
  exact uZ<|ah (v:=.nil) O<|ah (v:=.nil) O<|ah (v:=.iface 36 (iZ 7)) O<|am<|ak H (VW.QF<|QJ (VW.QC)<|QJ (VW.QC)<|vZ<|vn)<|L _ _ _ h
 refine kZ<|dj<|aj<|cx NV vN O7 N8 db (ps:=[]) O O (v:=.agg [iZ 0,.int .u64 0,.int .u64 0]) O ?_;refine wk 3 λh=>?_
 refine aj<|Qn O<|fL h λr2 h=>wZ W<|aT jV Ea vN (es:=[bf r2]) O (kk:=3) O O O O O O (λg2=>?_)
 refine wk 7 λh=>?_
 refine Dy (aU (k:=29) (xs:=List.map bf [r2]) O (es:=[(1,.ptr W 1 g1 0 0),(7,eL bf [r2]),(8,.nil)]) (fZ<|fc (aR O)<|fZ<|fn) (m:=[(1,.arr 3 [aD f],g1)]) (sc O<|sn)) (Vc.V6 8 66 1 O dZ (λg3=>SB h g3 (λy=>aC [(1,.ptr W 1 g1 0 0),(7,eL bf y.1.1),(8,.sl 1 W 66 y.2 0 y.1.2.length)]) (λy=>Qr S W [(1,.arr 3 [aD f],g1),(66,.arr 1 (List.map iZ y.1.2),y.2)]) (canon (fZ<|fZ<|fc (VW.QO QK)<|fn)<|sc O<|sc O<|sn) (λy _ h=>?_)));obtain⟨⟨rows,steps⟩,g4⟩:=y;refine wk 4 λh=>?_
 refine aj<|Qn O<|qW h λi h=>?_
 refine wk 8 λh=>?_
 refine cZ h O (λB2 h=>?_) (λB2 h=>?_)
 ·refine wk 8 λh=>?_
  exact uZ<|ah (v:=eL bf rows) O<|ah (v:=.sl 1 W 66 g4 0 steps.length) O<|ah (v:=.Qg) O<|am<|aX (k:=66) (xs:=List.map iZ steps) O (v':=.tuple [eL bf rows,aF steps,.Qg]) (VW.QF<|vZ<|QJ (aR O)<|vZ<|vn)<|ak H RE<|L _ _ _ h
 refine wk 13 λg5 h=>?_;refine Vc.TQ 10 0 11000 3 (b:=λg6=>.agg [.sl 3 W 11000 g6 0 0]) O O dZ dZ O (λg6=>SB h g6 (λy=>aC [(1,.ptr W 1 g1 0 0),(8,.sl 1 W 66 g4 0 steps.length),(9,iZ i),(10,.ptr W 10 g5 0 0),(36,eL bf rows),(37,iZ (rows.length:Int)),(38,iZ y.1.1)]) (λy=>Qr S W [(1,.arr 3 [aD f],g1),(10,.arr 1 [.sl 3 W 11000 y.2 0 y.1.2.length],g5),(66,.arr 1 (List.map iZ steps),g4),(11000,.arr 3 (List.map bf y.1.2),y.2)]) (Rm.trans (Rm.ow (k:=10) (o':=.arr 1 [.sl 3 W 11000 g6 0 ([].length)]) O<|OW.one<|SG.US<|QJ (VW.QO QK)<|vn)<|canon (kD<|fZ<|fZ<|fZ<|fn)<|mK O O O O<|sn) (λy _ h=>?_));obtain⟨⟨x,x1⟩,g7⟩:=y;refine wk 5 λh=>?_
 refine cZ h O (λB3 h=>?_) (λB3 h=>?_)
 ·refine wk 6 λh G h=>?_;refine aj<|rt db dZ jJ O O (v:=bf (P9 rows x)) O ?_
  refine wk 5 λg8 h=>?_;refine aj<|br (aZ 12 O) db dZ jJ O O (v:=bf (P9 rows x)) O<|Uk (iZ i) O<|aj<|Qn O<|qV h λr3 h=>nZ<|cZ h O (λB4 h=>?_) (λB4 h=>?_)
  ·refine wk 2 λh=>?_
   refine aj<|br (aZ 12 O) db dZ jJ O O (v:=bf (P9 rows x)) O<|Uk (iZ i) O<|aj<|Qn O<|bh (ac (aZ 10 O)<|ac (aZ 11000 O)<|aG)<|mG Sk h λu g9 h=>aM (aN (aN (aG) bm) bm) ?_
   exact wk 9999 trivial
  refine rZ<|aj<|br (aZ 12 O) db dZ jJ O O (v:=bf (P9 rows x)) O<|aj<|Qn O<|bh (ac (aZ 10 O)<|ac (aZ 11000 O)<|aG)<|cT Sk h λu1 g10 h=>aM (aN (aN (aG) bm) bm) ?_
  exact wk 9999 trivial
 refine wk 8 λh=>?_
 refine cZ h O (λB5 h=>?_) (λB5 h=>?_)
 ·refine wk 7 λh=>?_
  exact uZ<|ah (v:=.nil) O<|ah (v:=.nil) O<|ah (v:=.iface 36 (iZ 4)) O<|am<|ak H (VW.QF<|QJ (VW.QC)<|QJ (VW.QC)<|vZ<|vn)<|L _ _ _ h
 refine wk 4 λh=>?_
 refine fh (aU (k:=11000) (xs:=List.map bf x1) O (es:=[(1,.ptr W 1 g1 0 0),(8,.sl 1 W 66 g4 0 steps.length),(56,eL bf x1)]) (fZ<|fc (kz O)<|fc (aR O)<|fn) (m:=[(1,.arr 3 [aD f],g1),(66,.arr 1 (List.map iZ steps),g4)]) (sc O<|sc O<|sn)) (aj<|Qn O<|tF h λUu h=>?_);refine wk 9 λh=>?_
 refine cZ h O (λB6 h=>?_) (λB6 h=>?_)
 ·refine wk 7 λh=>?_
  exact uZ<|ah (v:=.nil) O<|ah (v:=.nil) O<|ah (v:=.iface 36 (iZ 4)) O<|am<|ak H (VW.QF<|QJ (VW.QC)<|QJ (VW.QC)<|vZ<|vn)<|L _ _ _ h
 refine wk 5 λh=>?_
 refine wZ W<|aT bW Rz dg (es:=[iZ (Uu.length:Int)]) O (kk:=1) O O O O O O (λg11=>Qp h (λG3 h=>wZ W<|dD bW nC Rz dg (es:=steps) (xs:=[(Uu.length:Int)]) (enc:=iZ) (aZ 66 O) QK (bS (aZ 65 O) QK) (kk:=1) O O (λ_=>O) (λ_=>O) G3 O (λ_=>bm) (λg12=>?_)))
 exact wk 9999 trivial
theorem pu{Q:List Int->Option Int->Prop}(h:fA f Q)(L:∀r1 r2,Q r1 r2->R (.tuple [aF r1,bd 36 r2]) S) :Ctr prog 7 [aD f] S R:=by
 refine ar func7 rfl ntmps7 results7 Ql (λW H=>?_);refine wk 9 λg1 h=>?_;refine aj<|Qn O<|wm h λr r1 r2 h=>?_
 refine wk 14 λh=>?_
 refine cZ h O (λB h=>?_) (λB h=>?_)
 ·refine wk 6 λh=>?_
  exact uZ<|ah (v:=.nil) O<|ah (v:=bd 36 r2) O<|am<|ak H (VW.QF<|QJ (VW.QC)<|vZ<|vn)<|L _ _ h
 refine wk 13 λh=>?_
 refine Vc.V6 7 29 1 O dZ (λg2=>SB h g2 (λy=>aC [(7,.sl 1 W 29 y.2 0 y.1.2.length),(19,eL bf r),(20,iZ (r.length:Int)),(21,iZ y.1.1)]) (λy=>Qr S W [(29,.arr 1 (List.map iZ y.1.2),y.2)]) (canon (fc (VW.QO QK)<|fZ<|fZ<|fZ<|fn)<|sc O<|sn) (λy _ h=>?_));obtain⟨⟨x,out⟩,g3⟩:=y;refine wk 5 λh=>?_
 refine cZ h O (λB1 h=>?_) (λB1 h=>?_)
 ·refine wk 6 λh G h=>?_;refine aj<|rt db dZ jJ O O (v:=bf (P9 r x)) O ?_
  refine wk 7 λg4 h=>?_;refine wZ W<|aT bW Rz dg (es:=[iZ ((P9 r x).events)]) O (kk:=1) O O O O O O (λg5=>Qp h (λG1 h=>wZ W<|dD bW nC Rz dg (es:=out) (xs:=[(P9 r x).events]) (enc:=iZ) (aZ 29 O) QK (bS (aZ 28 O) QK) (kk:=1) O O (λ_=>O) (λ_=>O) G1 O (λ_=>bm) (λg6=>?_)))
  exact wk 9999 trivial
 refine wk 4 λh=>?_
 refine aj<|Qn O<|bh (ac (aZ 29 O)<|aG)<|iV Sk h λRe h=>aM (aN (aG) bm)<|Qp h (λhl h=>?_)
 refine wk 7 λh=>?_
 exact uZ<|ah (v:=.sl 1 W 29 g3 0 out.length) O<|ah (v:=.Qg) O<|am<|aX (k:=29) (xs:=List.map iZ Re) O (v':=.tuple [aF Re,.Qg]) (VW.QF<|QJ (aR QK)<|vZ<|vn)<|ak H RE<|L _ _ h
end Go.Proofs.YtbnjpdocceckeaaGreat
namespace Go.Proofs.YtbnjpdocceckeaaGreat
open Go.Gg Tryz
set_option maxRecDepth 100000
set_option maxHeartbeats 2000000
variable{S:St}{R:AV->St->Prop}
theorem tG{Q:GFormula->Prop}(h:qe Q)(L:∀r1,Q r1->R (aD r1) S) :Ctr prog 17 [] S R:=by
 refine ar func17 rfl ntmps17 results17 Ql (λW H=>?_);refine wk 6 λg1 h=>?_;refine wZ W<|aT bW Rz dg (es:=[iZ 0,iZ 1,iZ 2]) O (kk:=1) O O O O O O (λg2=>aj<|cx NW Cm L_ LF HL (ps:=[(0,iZ 4),(1,iZ 2),(2,.sl 1 W 1 g2 0 ([0,1,2].length))]) O O (v:=.agg [iZ 4,iZ 2,.sl 1 W 1 g2 0 ([0,1,2].length)]) O (fh (aU (k:=1) (xs:=List.map iZ [0,1,2]) O (es:=[(0,.ptr W 0 g1 0 0),(2,.agg [iZ 4,iZ 2,aF [0,1,2]])]) (fZ<|fc (VW.Sb<|vZ<|vZ<|QJ (aR O)<|vn)<|fn) (m:=[(0,.arr 3 [.agg [iZ 0,.nil,iZ 0]],g1)]) (sc O<|sn)) (wZ W<|aT HD MT Cm (es:=[.agg [iZ 4,iZ 2,aF [0,1,2]]]) O (kk:=3) O O O O O O (λg4=>aj<|cx My Hk Jg HI DU (ps:=[(0,iZ 3),(2,iZ 3),(1,.sl 3 W 3 g4 0 ([(⟨4,2,[0,1,2]⟩:QN)].length))]) O O (v:=.agg [iZ 3,.sl 3 W 3 g4 0 ([(⟨4,2,[0,1,2]⟩:QN)].length),iZ 3]) O ?_))))
 refine wk 2 λh=>?_
 exact uZ<|bn (aZ 0 O) DU dZ Le O O (v:=.agg [iZ 3,.sl 3 W 3 g4 0 ([(⟨4,2,[0,1,2]⟩:QN)].length),iZ 3]) O (am<|aX (k:=3) (xs:=List.map bT [(⟨4,2,[0,1,2]⟩:QN)]) O (v':=.agg [iZ 3,eL bT [(⟨4,2,[0,1,2]⟩:QN)],iZ 3]) (VW.Sb<|vZ<|QJ (aR O)<|vZ<|vn)<|Tl H<|L _ h)
variable{Q:Bool->Prop}
theorem qB(h:je Q)(L:∀r1,Q r1->R (AV.bool r1) S) :Ctr prog 4 [] S R:=by
 refine ar func4 rfl ntmps4 results4 Ql (λW H=>?_);refine wk 6 λh=>?_
 refine aj<|Qn O<|tG h λr h=>aj<|Qn O<|pu h λr1 r2 h=>?_
 refine wk 8 λh=>?_
 refine aj<|Qn O<|tG h λr3 h=>aj<|Qn O<|qF h λr4 r5 h=>?_
 refine wk 11 λh=>?_
 refine Te h O O (λB h=>?_) (λB h=>?_)
 ·refine wk 5 λh=>?_
  refine Te h O O (λB1 h=>?_) (λB1 h=>?_)
  ·refine wk 2 λh=>?_
   refine wZ W<|aT bW Rz dg (es:=[iZ 3,iZ 5,iZ 6]) O (kk:=1) O O O O O O (λg1=>gTZ O O B1<|fh (aU (k:=23) (xs:=List.map iZ [3,5,6]) O (es:=[(3,aF r4),(21,.bool (Option.isNone r5)),(22,aF r1),(23,aF [3,5,6])]) (fZ<|fZ<|fZ<|fc (aR O)<|fn) (m:=[]) (sn)) (aj<|Qn O<|gc h λr6 h=>?_));refine wk 2 λh=>?_
   refine Te h O O (λB2 h=>?_) (λB2 h=>?_)
   ·refine wk 2 λh=>?_
    refine wZ W<|aT bW Rz dg (es:=[iZ 3,iZ 5,iZ 6]) O (kk:=1) O O O O O O (λg2=>gTZ O O B2<|fh (aU (k:=28) (xs:=List.map iZ [3,5,6]) O (es:=[(26,.bool r6),(27,aF r4),(28,aF [3,5,6])]) (fZ<|fZ<|fc (aR O)<|fn) (m:=[]) (sn)) (aj<|Qn O<|gc h λr7 h=>?_));refine wk 3 λh=>?_
    exact uZ<|Qv H<|L _ h
   refine wk 5 λh=>?_
   exact uZ<|Qv H<|L _ h
  refine wk 10 λh=>?_
  exact uZ<|Qv H<|L _ h
 refine wk 14 λh=>?_
 exact uZ<|Qv H<|L _ h
variable{f:GFormula}
theorem zJ(h:qX f Q)(L:∀r1,Q r1->R (AV.bool r1) S) :Ctr prog 18 [aD f] S R:=by
 refine ar func18 rfl ntmps18 results18 Ql (λW H=>?_);refine wk 18 λg1 h=>?_;refine Rf h (λy=>aC [(1,.ptr W 1 g1 0 0),(3,iZ y.1),(7,eL bT f.N),(8,iZ (f.N.length:Int)),(9,iZ y.2)]) (λy=>Qr S W [(1,.arr 3 [aD f],g1)]) Rj (λy _ h=>?_);obtain⟨n,x⟩:=y;refine wk 5 λh=>?_
 refine cZ h O (λB h=>?_) (λB h=>?_);·exact wk 9999 trivial
 refine wk 7 λh=>?_
 refine T8 h O O (λB1 h=>?_) (λB1 h=>?_)
 ·refine wk 9 λh=>?_
  refine T8 h O O (λB2 h=>?_) (λB2 h=>?_)
  ·refine wk 6 λh=>?_
   exact uZ<|Qv H<|L _ h
  refine wk 4 λh=>?_
  exact uZ<|Qv H<|L _ h
 refine wk 10 λh=>?_
 exact uZ<|Qv H<|L _ h
theorem zI(h:oO f Q)(L:∀r1,Q r1->R (AV.bool r1) S) :Ctr prog 5 [aD f] S R:=by
 refine ar func5 rfl ntmps5 results5 Ql (λW H=>?_);refine wk 8 λg1 h=>?_;refine aj<|Qn O<|zJ h λr h=>?_
 refine wk 2 λh=>?_
 refine Te h O O (λB h=>?_) (λB h=>?_)
 ·refine wk 2 λh=>?_
  refine aj<|Qn O<|wz h λr1 h=>?_
  refine wk 5 λh=>?_
  exact uZ<|Qv H<|L _ h
 refine wk 5 λh=>?_
 exact uZ<|Qv H<|L _ h
theorem sG{e:Option Int}(h:fq e Q)(L:∀r1,Q r1->R (AV.bool r1) S) :Ctr prog 13 [bd 36 e] S R:=by
 refine ar func13 rfl ntmps13 results13 Ql (λW H=>?_);refine wk 7 λh=>?_
 exact aj<|Qn O<|mD h λr h=>RJ (.bool r) O<|eT<|Qv H<|L _ h
end Go.Proofs.YtbnjpdocceckeaaGreat
namespace Go.Proofs.YtbnjpdocceckeaaGreat
open Go.Gg Tryz
set_option maxRecDepth 100000
set_option maxHeartbeats 2000000
variable{S:St}{R:AV->St->Prop}
variable{f:GFormula}
theorem sC{Q:List Bool->Prop}(h:kP f Q)(L:∀r1,Q r1->R (eL AV.bool r1) S) :Ctr prog 71 [aD f] S R:=by
 refine ar func71 rfl ntmps71 results71 Ql (λW H=>?_);refine wk 13 λg1 h G h=>?_;refine Qp h (λG1 h=>wZ W<|fk oP Dq Ww (enc:=AV.bool) (z':=false) tA (kk:=1) O O O G1 (λg2=>?_))
 refine wk 20 λh J h G2 h=>?_;refine Rf h (λy=>aC [(1,.ptr W 1 g1 0 0),(3,.sl 1 W 13 g2 0 y.2.length),(4,iZ y.1)]) (λy=>Qr S W [(1,.arr 3 [aD f],g1),(13,.arr 1 (List.map AV.bool y.2),g2)]) (canon (fZ<|fc (VW.QO QK)<|fZ<|fn)<|sc O<|sc O<|sn) (λy _ h=>?_);obtain⟨i,out⟩:=y;refine wk 6 λh=>?_
 refine cZ h O (λB h=>?_) (λB h=>?_)
 ·refine wk 13 λh G3 h J1 h=>?_;refine cZ h O (λB1 h=>?_) (λB1 h=>?_)
  ·refine wk 12 λh G4 h=>?_;refine Rf h (λy=>aC [(1,.ptr W 1 g1 0 0),(3,.sl 1 W 13 g2 0 y.2.length),(4,iZ i),(38,aF ((P9 f.N i).Z)),(39,iZ (((P9 f.N i).Z).length:Int)),(40,iZ y.1)]) (λy=>Qr S W [(1,.arr 3 [aD f],g1),(13,.arr 1 (List.map AV.bool y.2),g2)]) Rj (λy _ h=>?_);obtain⟨x,Re⟩:=y;refine wk 5 λh=>?_
   refine cZ h O (λB2 h=>?_) (λB2 h=>?_);·exact wk 9999 trivial
   exact wk 9999 trivial
  exact wk 9999 trivial
 refine wk 6 λh=>?_
 exact uZ<|ah (v:=.sl 1 W 13 g2 0 out.length) O<|am<|aX (k:=13) (xs:=List.map AV.bool out) O (v':=eL AV.bool out) (aR O)<|Tl H<|L _ h
variable{Q:List Int->Option Int->Prop}{args:List (List Int)}
theorem uB{k1:Int}(h:mX args k1 Q)(L:∀r1 r2,Q r1 r2->R (.tuple [aF r1,bd 36 r2]) S) :Ctr prog 128 [eL aF args,iZ k1] S R:=by
 refine ar func128 rfl ntmps128 results128 Ql (λW H=>?_);refine wk 9 λh G h=>?_;refine Qp h (λG1 h=>wZ W<|rU nN sP po jd (kk:=1) O O O G1 (λg1=>fh (Rm.ow (k:=15) (o':=.arr 1 (List.map aF<|bA (k1+1) [])) O (OW.rep<|SG.US<|QJ (VW.QC)<|vn)) ?_));refine wk 5 λh=>?_
 refine wZ W<|aT bW Rz dg (es:=[iZ 0]) O (kk:=1) O O O O O O (λg2=>?_)
 refine wk 1 λh J h=>?_;refine fh (aU (k:=17) (xs:=List.map iZ [0]) O (es:=[(0,eL aF args),(1,iZ k1),(6,.sl 1 W 15 g1 0 (Int.toNat<|k1+1)),(17,aF [0]),(18,.ptr W 15 g1 (Int.toNat 0) 0)]) (fZ<|fZ<|fc (kz O)<|fc (aR O)<|fZ<|fn) (m:=[(15,.arr 1 (List.map aF<|bA (k1+1) []),g1)]) (sc O<|sn)) ?_;refine wk 11 λh G2 h=>?_;refine Dy (aU (k:=15) (xs:=List.map aF (Qt (bA (k1+1) []) 0 [0])) O (es:=[(0,eL aF args),(1,iZ k1),(6,eL aF (Qt (bA (k1+1) []) 0 [0])),(7,iZ ((args.length:Int)-1))]) (fZ<|fZ<|fc (aR QK)<|fZ<|fn) (m:=[]) (sn)) (Rf h (λy=>aC [(0,eL aF args),(1,iZ k1),(6,eL aF y.1),(7,iZ y.2)]) (λy=>Qr S W []) Rj (λy _ h=>?_));obtain⟨t1,i⟩:=y;refine wk 6 λh=>?_
 refine cZ h O (λB h=>?_) (λB h=>?_)
 ·refine kZ<|qZ<|bZ<|dj<|wZ W<|aT bW Rz dg (es:=[iZ 0]) O (kk:=1) O O O O O O (λg3=>fh (aU (k:=26) (xs:=List.map iZ [0]) O (es:=[(0,eL aF args),(1,iZ k1),(6,eL aF t1),(7,iZ i),(26,aF [0])]) (kD<|fc (aR O)<|fn) (m:=[]) (sn)) (wZ W<|aT nN po jd (es:=[aF [0]]) O (kk:=1) O O O O O O (λg5=>?_)))
  refine wk 8 λh=>?_
  refine SB h g5 (λy=>aC [(0,eL aF args),(1,iZ k1),(6,eL aF t1),(7,iZ i),(8,.sl 1 W 27 y.2 0 y.1.2.length),(9,iZ y.1.1)]) (λy=>Qr S W [(27,.arr 1 (List.map aF y.1.2),y.2)]) Rj (λy _ h=>?_);obtain⟨⟨j,Qd⟩,g6⟩:=y;refine wk 7 λh=>?_
  refine cZ h O (λB1 h=>?_) (λB1 h=>?_)
  ·refine kZ<|qZ<|bZ<|qZ<|Qp h (λG3 h=>Qp h (λG4 h=>Qp h (λG5 h=>?_)));obtain⟨r,r1,C,h⟩:=h;refine Vc.Qf mixed W (gO [(9,pc (.tuple [aF r,bd 36 r1]))]) Ql ?_;refine wk 2 λh=>?_
   refine dP O O<|ek nN JW dZ (λ_=>O) O O G3 ?_;refine wk 3 λh=>?_
   refine dP O O<|cL O O G4<|dP O O<|ek nN JW dZ (λ_=>O) O O G5 ?_;refine wk 1 λh=>?_
   refine dC (vs:=[aF (P9 args i),aF (P9 t1<|j-1)]) O (vZ<|vZ<|vn) (λ_=>fI C (λ_ _ hr=>⟨by rw[hr.1,hr.2],rfl⟩)) O ?_;refine wk 12 λh=>?_
   refine cZ h O (λB2 h=>?_) (λB2 h=>?_)
   ·refine wk 6 λh=>?_
    exact uZ<|ah (v:=.nil) O<|ah (v:=bd 36 r1) O<|am<|ak H (VW.QF<|QJ (VW.QC)<|vZ<|vn)<|L _ _ h
   refine wk 8 λh G6 h=>?_;refine aj<|Qn O<|jy h λr2 r3 h=>?_
   refine wk 12 λh=>?_
   refine cZ h O (λB3 h=>?_) (λB3 h=>?_)
   ·refine wk 6 λh=>?_
    exact uZ<|ah (v:=.nil) O<|ah (v:=bd 36 r3) O<|am<|ak H (VW.QF<|QJ (VW.QC)<|vZ<|vn)<|L _ _ h
   refine wk 4 λh=>?_
   refine wZ W<|aT nN po jd (es:=[aF r2]) O (kk:=1) O O O O O O (λg7=>Qp h (λG7 h=>wZ W<|dD nN sP po jd (es:=Qd) (xs:=[r2]) (enc:=aF) (aZ 27 O) QK (bS (aZ 63 O) QK) (kk:=1) O O (λ_=>O) (λ_=>O) G7 O (λ_=>bm) (λg8=>?_)))
   exact wk 9999 trivial
  refine wk 10 λh G9 h=>?_;exact⟨(Qd,(i-1)),(Rm.trans (aU (k:=27) (xs:=List.map aF Qd) O (es:=[(0,eL aF args),(1,iZ k1),(6,eL aF Qd),(7,iZ (i-1))]) (fZ<|fZ<|fc (aR O)<|fZ<|fn) (m:=[]) (sn)) (canon (kD<|fn)<|sn)),h⟩
 refine wk 10 λh G10 h=>?_;exact uZ<|ah (v:=aF (P9 t1 k1)) O<|ah (v:=.Qg) O<|am<|ak H RE<|L _ _ h
variable{first:List Int}
theorem lQ(h:eY args first Q)(L:∀r1 r2,Q r1 r2->R (.tuple [aF r1,bd 36 r2]) S) :Ctr prog 126 [eL aF args,aF first,.fn (.func 127) [] []] S R:=by
 refine ar func126 rfl ntmps126 results126 Ql (λW H=>?_);refine wk 18 λh=>?_
 refine Rf h (λy=>aC [(2,.fn (.func 127) [] []),(8,aF y.1),(14,eL aF args),(15,iZ (args.length:Int)),(16,iZ y.2)]) (λy=>Qr S W []) Rj (λy _ h=>?_);obtain⟨out,x⟩:=y;refine wk 5 λh=>?_
 refine cZ h O (λB h=>?_) (λB h=>?_)
 ·refine wk 14 λh G h=>?_;refine aj<|Qn O<|jy h λr r1 h=>?_
  refine wk 12 λh=>?_
  refine cZ h O (λB1 h=>?_) (λB1 h=>?_)
  ·refine wk 6 λh=>?_
   exact uZ<|ah (v:=.nil) O<|ah (v:=bd 36 r1) O<|am<|ak H (VW.QF<|QJ (VW.QC)<|vZ<|vn)<|L _ _ h
  exact wk 9999 trivial
 refine wk 7 λh=>?_
 exact uZ<|ah (v:=aF out) O<|ah (v:=.Qg) O<|am<|ak H RE<|L _ _ h
theorem jX(h:dX args first Q)(L:∀r1 r2,Q r1 r2->R (.tuple [aF r1,bd 36 r2]) S) :Ctr prog 126 [eL aF args,aF first,.fn (.func 42) [] []] S R:=by
 refine ar func126 rfl ntmps126 results126 Ql (λW H=>?_);refine wk 18 λh=>?_
 refine Rf h (λy=>aC [(2,.fn (.func 42) [] []),(8,aF y.1),(14,eL aF args),(15,iZ (args.length:Int)),(16,iZ y.2)]) (λy=>Qr S W []) Rj (λy _ h=>?_);obtain⟨out,x⟩:=y;refine wk 5 λh=>?_
 refine cZ h O (λB h=>?_) (λB h=>?_)
 ·refine wk 14 λh G h=>?_;refine aj<|Qn O<|fI h λr r1 h=>?_
  refine wk 12 λh=>?_
  refine cZ h O (λB1 h=>?_) (λB1 h=>?_)
  ·refine wk 6 λh=>?_
   exact uZ<|ah (v:=.nil) O<|ah (v:=bd 36 r1) O<|am<|ak H (VW.QF<|QJ (VW.QC)<|vZ<|vn)<|L _ _ h
  exact wk 9999 trivial
 refine wk 7 λh=>?_
 exact uZ<|ah (v:=aF out) O<|ah (v:=.Qg) O<|am<|ak H RE<|L _ _ h
theorem uC{n:QN}(h:mY n args Q)(L:∀r1 r2,Q r1 r2->R (.tuple [aF r1,bd 36 r2]) S) :Ctr prog 72 [bT n,eL aF args] S R:=by
 refine ar func72 rfl ntmps72 results72 Ql (λW H=>?_);refine wk 18 λg1 h=>?_;refine cZ h O (λB h=>?_) (λB h=>?_)
 ·refine wk 7 λh=>?_
  refine cZ h O (λB1 h=>?_) (λB1 h=>?_)
  ·refine dj<|wZ W<|aT bW Rz dg (es:=[iZ 0]) O (kk:=1) O O O O O O (λg2=>?_)
   refine wk 3 λh=>?_
   exact uZ<|ah (v:=.sl 1 W 13 g2 0 ([0].length)) O<|ah (v:=.Qg) O<|am<|aX (k:=13) (xs:=List.map iZ [0]) O (v':=.tuple [aF [0],.Qg]) (VW.QF<|QJ (aR O)<|vZ<|vn)<|ak H RE<|L _ _ h
  refine wk 6 λh=>?_
  exact uZ<|ah (v:=.nil) O<|ah (v:=.Qg) O<|am<|ak H (VW.QF<|QJ (VW.QC)<|vZ<|vn)<|L _ _ h
 refine wk 5 λh=>?_
 refine cZ h O (λB2 h=>?_) (λB2 h=>?_)
 ·refine wk 3 λh=>?_
  refine wZ W<|Ec (us:=[eL aF args,aF [],.fn (.func 127) [] []]) O (vZ<|QJ (VW.QC)<|vZ<|vn)<|lQ h λr r1 h=>?_
  refine wk 5 λh=>?_
  exact uZ<|ah (v:=aF r) O<|ah (v:=bd 36 r1) O<|am<|ak H RE<|L _ _ h
 refine wk 5 λh=>?_
 refine cZ h O (λB3 h=>?_) (λB3 h=>?_)
 ·refine wk 3 λh=>?_
  refine wZ W<|aT bW Rz dg (es:=[iZ 0]) O (kk:=1) O O O O O O (λg3=>fh (aU (k:=23) (xs:=List.map iZ [0]) O (es:=[(22,eL aF args),(23,aF [0])]) (fZ<|fc (aR O)<|fn) (m:=[]) (sn)) (aj<|Qn O<|jX h λr2 r3 h=>?_));refine wk 5 λh=>?_
  exact uZ<|ah (v:=aF r2) O<|ah (v:=bd 36 r3) O<|am<|ak H RE<|L _ _ h
 refine wk 6 λh=>?_
 refine aj<|Qn O<|uB h λr4 r5 h=>?_
 refine wk 5 λh=>?_
 exact uZ<|ah (v:=aF r4) O<|ah (v:=bd 36 r5) O<|am<|ak H RE<|L _ _ h
theorem qT{Q:List (List Int)->Option Int->Prop}(h:gp f Q)(L:∀r1 r2,Q r1 r2->R (.tuple [eL aF r1,bd 36 r2]) S) :Ctr prog 33 [aD f] S R:=by
 refine ar func33 rfl ntmps33 results33 Ql (λW H=>?_);refine wk 9 λg1 h=>?_;refine aj<|Qn O<|fg h λr r1 h=>?_
 refine wk 12 λh=>?_
 refine cZ h O (λB h=>?_) (λB h=>?_)
 ·refine wk 6 λh=>?_
  exact uZ<|ah (v:=.nil) O<|ah (v:=bd 36 r1) O<|am<|ak H (VW.QF<|QJ (VW.QC)<|vZ<|vn)<|L _ _ h
 refine wk 7 λh=>?_
 refine cZ h O (λB1 h=>?_) (λB1 h=>?_)
 ·refine wk 6 λh=>?_
  exact uZ<|ah (v:=.nil) O<|ah (v:=.iface 36 (iZ 7)) O<|am<|ak H (VW.QF<|QJ (VW.QC)<|vZ<|vn)<|L _ _ h
 refine wk 4 λh=>?_
 refine aj<|Qn O<|sC h λneed h=>?_
 refine wk 7 λh=>?_
 refine Qp h (λG h=>wZ W<|rU nN sP po jd (kk:=1) O O O G (λg2=>fh (Rm.ow (k:=29) (o':=.arr 1 (List.map aF<|bA (f.N.length:Int) [])) O (OW.rep<|SG.US<|QJ (VW.QC)<|vn)) ?_));refine wk 11 λh=>?_
 refine Rf h (λy=>aC [(1,.ptr W 1 g1 0 0),(6,eL AV.bool need),(7,.sl 1 W 29 g2 0 y.2.length),(31,eL bT f.N),(32,iZ (f.N.length:Int)),(33,iZ y.1)]) (λy=>Qr S W [(1,.arr 3 [aD f],g1),(29,.arr 1 (List.map aF y.2),g2)]) (canon (fZ<|fZ<|fc (VW.QO QK)<|fZ<|fZ<|fZ<|fn)<|sc O<|sc O<|sn) (λy _ h=>?_);obtain⟨x,out⟩:=y;refine wk 5 λh=>?_
 refine cZ h O (λB2 h=>?_) (λB2 h=>?_)
 ·refine wk 24 λg3 h G1 h G2 h G3 h=>?_;refine cZ h O (λB3 h=>?_) (λB3 h=>?_);·exact wk 9999 trivial
  refine wk 14 λh=>?_
  refine Vc.V6 10 62 1 O dZ (λg4=>SB h g4 (λy=>aC [(1,.ptr W 1 g1 0 0),(6,eL AV.bool need),(7,.sl 1 W 29 g2 0 out.length),(8,iZ x),(9,.ptr W 9 g3 0 0),(10,.sl 1 W 62 y.2 0 y.1.2.length),(31,eL bT f.N),(32,iZ (f.N.length:Int)),(33,iZ x),(47,aF ((P9 f.N x).Z)),(48,iZ (((P9 f.N x).Z).length:Int)),(49,iZ y.1.1)]) (λy=>Qr S W [(1,.arr 3 [aD f],g1),(9,.arr 3 [bT (P9 f.N x)],g3),(29,.arr 1 (List.map aF out),g2),(62,.arr 1 (List.map aF y.1.2),y.2)]) (canon (kD<|fZ<|fc (VW.QO QK)<|kD<|fZ<|fZ<|fn)<|mK O O O O<|sn) (λy _ h=>?_));obtain⟨⟨x1,args⟩,g5⟩:=y;refine wk 5 λh=>?_
  refine cZ h O (λB4 h=>?_) (λB4 h=>?_)
  ·refine wk 16 λh G5 h=>?_;refine cZ h O (λB5 h=>?_) (λB5 h=>?_)
   ·refine wk 3 λh=>?_
    refine Qp h (λG6 h=>aj<|lz O O G6<|wZ W<|aT bW Rz dg (es:=[iZ (1*2^(Int.toNat<|P9 ((P9 f.N x).Z) x1))]) O (kk:=1) O O O O O O (λg6=>fh (aU (k:=60) (xs:=List.map iZ [(1*2^(Int.toNat<|P9 ((P9 f.N x).Z) x1))]) O (es:=[(1,.ptr W 1 g1 0 0),(6,eL AV.bool need),(7,.sl 1 W 29 g2 0 out.length),(8,iZ x),(9,.ptr W 9 g3 0 0),(31,eL bT f.N),(32,iZ (f.N.length:Int)),(33,iZ x),(47,aF ((P9 f.N x).Z)),(48,iZ (((P9 f.N x).Z).length:Int)),(49,iZ x1),(57,.sl 1 W 62 g5 0 args.length),(60,aF [(1*2^(Int.toNat<|P9 ((P9 f.N x).Z) x1))])]) (fZ<|fZ<|fc (kz O)<|kD<|kD<|fc (kz O)<|fc (aR O)<|fn) (m:=[(1,.arr 3 [aD f],g1),(9,.arr 3 [bT (P9 f.N x)],g3),(29,.arr 1 (List.map aF out),g2),(62,.arr 1 (List.map aF args),g5)]) (mK O O O O<|sn)) (wZ W<|aT nN po jd (es:=[aF [(1*2^(Int.toNat<|P9 ((P9 f.N x).Z) x1))]]) O (kk:=1) O O O O O O (λg8=>Qp h (λG7 h=>wZ W<|dD nN sP po jd (es:=args) (xs:=[[(1*2^(Int.toNat<|P9 ((P9 f.N x).Z) x1))]]) (enc:=aF) (aZ 62 O) QK (bS (aZ 61 O) QK) (kk:=1) O O (λ_=>O) (λ_=>O) G7 O (λ_=>bm) (λg9=>?_))))))
    exact wk 9999 trivial
   refine wk 9 λh G9 h J h=>?_;refine wZ W<|aT nN po jd (es:=[aF (P9 out<|(P9 ((P9 f.N x).Z) x1)-f.Y)]) O (kk:=1) O O O O O O (λg10=>Qp h (λG10 h=>wZ W<|dD nN sP po jd (es:=args) (xs:=[(P9 out<|(P9 ((P9 f.N x).Z) x1)-f.Y)]) (enc:=aF) (aZ 62 O) QK (bS (aZ 71 O) QK) (kk:=1) O O (λ_=>O) (λ_=>O) G10 O (λ_=>bm) (λg11=>?_)))
   exact wk 9999 trivial
  refine wk 7 λh=>?_
  refine fh (aU (k:=62) (xs:=List.map aF args) O (es:=[(1,.ptr W 1 g1 0 0),(6,eL AV.bool need),(7,.sl 1 W 29 g2 0 out.length),(31,eL bT f.N),(32,iZ (f.N.length:Int)),(33,iZ x),(75,.sl 1 W 29 g2 0 out.length),(76,iZ x),(77,bT (P9 f.N x)),(78,eL aF args)]) (fZ<|fZ<|fc (kz O)<|fZ<|fZ<|fZ<|fc (kz O)<|fZ<|fZ<|fc (aR O)<|fn) (m:=[(1,.arr 3 [aD f],g1),(29,.arr 1 (List.map aF out),g2)]) (sc O<|sc O<|sn)) (aj<|Qn O<|uC h λr2 r3 h=>?_);refine wk 12 λh J1 h=>?_;refine cZ h O (λB6 h=>?_) (λB6 h=>?_)
  ·refine wk 6 λh=>?_
   exact uZ<|ah (v:=.nil) O<|ah (v:=bd 36 r3) O<|am<|ak H (VW.QF<|QJ (VW.QC)<|vZ<|vn)<|L _ _ h
  exact wk 9999 trivial
 refine wk 7 λh=>?_
 exact uZ<|ah (v:=.sl 1 W 29 g2 0 out.length) O<|ah (v:=.Qg) O<|am<|aX (k:=29) (xs:=List.map aF out) O (v':=.tuple [eL aF out,.Qg]) (VW.QF<|QJ (aR O)<|vZ<|vn)<|ak H RE<|L _ _ h
theorem uD(h:eZ f Q)(L:∀r1 r2,Q r1 r2->R (.tuple [aF r1,bd 36 r2]) S) :Ctr prog 8 [aD f] S R:=by
 refine ar func8 rfl ntmps8 results8 Ql (λW H=>?_);refine wk 9 λg1 h=>?_;refine aj<|Qn O<|qT h λr r1 h=>?_
 refine wk 12 λh=>?_
 refine cZ h O (λB h=>?_) (λB h=>?_)
 ·refine wk 6 λh=>?_
  exact uZ<|ah (v:=.nil) O<|ah (v:=bd 36 r1) O<|am<|ak H (VW.QF<|QJ (VW.QC)<|vZ<|vn)<|L _ _ h
 refine wk 10 λh=>?_
 refine cZ h O (λB1 h=>?_) (λB1 h=>?_)
 ·refine wk 4 λh=>?_
  refine Qp h (λG h=>aj<|lz O O G<|wZ W<|aT bW Rz dg (es:=[iZ (1*2^(Int.toNat f.A))]) O (kk:=1) O O O O O O (λg2=>?_))
  refine wk 3 λh=>?_
  exact uZ<|ah (v:=.sl 1 W 22 g2 0 ([(1*2^(Int.toNat f.A))].length)) O (ah (v:=.Qg) O<|am<|aX (k:=22) (xs:=List.map iZ [(1*2^(Int.toNat f.A))]) O (v':=.tuple [aF [(1*2^(Int.toNat f.A))],.Qg]) (VW.QF<|QJ (aR O)<|vZ<|vn) (ak H RE<|L _ _ h))
 refine wk 14 λh G1 h G2 h=>?_;exact uZ<|ah (v:=aF (P9 r<|f.A-f.Y)) O (ah (v:=.Qg) O<|am<|ak H RE<|L _ _ h)
end Go.Proofs.YtbnjpdocceckeaaGreat
