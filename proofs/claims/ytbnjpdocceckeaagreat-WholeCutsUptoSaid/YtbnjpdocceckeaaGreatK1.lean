/- Walks of functions. Conditions: none. -/
import Derived.Test.YtbnjpdocceckeaaGreatWa
import Derived.Test.YtbnjpdocceckeaaGreatGgTy
import Derived.Test.YtbnjpdocceckeaaGreatGj
import Derived.Test.YtbnjpdocceckeaaGreatGd
import Derived.Test.YtbnjpdocceckeaaGreatGs
import Derived.Test.YtbnjpdocceckeaaGreatGf
set_option linter.all false
namespace Go.Proofs.YtbnjpdocceckeaaGreat
open Go.Gg Tryz
set_option maxRecDepth 100000
set_option maxHeartbeats 2000000
variable{S:St}{R:AV->St->Prop}
variable{x:Int}
theorem nc{Q:Int->Prop}(h:il x Q)(L:∀r1,Q r1->R (iZ r1) S) :Ctr prog 107 [AV.int .u64 x] S R:=by
 refine ar func107 rfl ntmps107 results107 Ql (λW H=>?_);refine dj<|RJ (iZ 0) O<|nZ<|Uz h (λy=>aC [(0,.int .u64 y.1),(2,iZ y.2)]) (λy=>Qr S W []) (λy h=>?_) (λ_ h=>?_)
 ·obtain⟨x1,n⟩:=y;refine Uz h (λy=>aC [(0,.int .u64 y.1),(2,iZ y.2)]) (λy=>Qr S W []) (λy h=>?_) (λ_ h=>?_)
  ·obtain⟨x2,n1⟩:=y;refine Uz h (λy=>aC [(0,.int .u64 y.1),(2,iZ y.2)]) (λy=>Qr S W []) (λy h=>?_) (λ_ h=>?_)
   ·obtain⟨x3,n2⟩:=y;refine wk 5 λh=>?_
    refine Qp h (λG h=>wZ W<|CW td9 Ql O G ?_);refine wk 2 λh G1 h=>?_;exact TP h (λn3 hs h=>wZ W<|bX (v:=iZ n3) (by subst hs;rfl)<|eT<|Qv H<|L _ h)
   exact wk 9999 trivial
  exact wk 9999 trivial
 exact wk 9999 trivial
theorem fQ{Q:Int->Prop}(h:dt x Q)(L:∀r1,Q r1->R (iZ r1) S) :Ctr prog 147 [AV.int .u64 x] S R:=by
 refine ar func147 rfl ntmps147 results147 Ql (λW H=>?_);refine wk 12 λh=>?_
 refine TP h (λx1 hs h=>wZ W<|bX (v:=.int .u64 x1) (by subst hs;rfl) ?_);refine wk 9 λh=>?_
 refine TP h (λx2 Wj h=>wZ W<|bX (v:=.int .u64 x2) (by subst Wj;rfl) ?_);refine wk 8 λh=>?_
 refine TP h (λx3 TT h=>wZ W<|bX (v:=.int .u64 x3) (by subst TT;rfl) ?_);refine wk 7 λh=>?_
 refine TP h (λx4 hs3 h=>wZ W<|bX (v:=.int .u64 x4) (by subst hs3;rfl) ?_);refine wk 7 λh=>?_
 refine TP h (λx5 hs4 h=>wZ W<|bX (v:=.int .u64 x5) (by subst hs4;rfl) ?_);refine wk 7 λh=>?_
 refine TP h (λx6 hs5 h=>wZ W<|bX (v:=.int .u64 x6) (by subst hs5;rfl) ?_);refine wk 8 λh=>?_
 exact uZ<|Qv H<|L _ h
theorem jP{Q:Int->Prop}(h:fM x Q)(L:∀r1,Q r1->R (iZ r1) S) :Ctr prog 82 [AV.int .u64 x] S R:=by
 refine ar func82 rfl ntmps82 results82 Ql (λW H=>?_);refine wk 5 λh=>?_
 refine Yo O O ?_;refine wk 4 λh=>?_
 exact aj<|Qn O<|fQ h λr h=>RJ (iZ r) O<|eT<|Qv H<|L _ h
theorem nf{Q:Int->Prop}(h:im x Q)(L:∀r1,Q r1->R (iZ r1) S) :Ctr prog 124 [AV.int .u32 x] S R:=by
 refine ar func124 rfl ntmps124 results124 Ql (λW H=>?_);refine dj<|RJ (iZ 0) O<|nZ<|Uz h (λy=>aC [(0,.int .u32 y.1),(2,iZ y.2)]) (λy=>Qr S W []) (λy h=>?_) (λ_ h=>?_)
 ·obtain⟨x1,n⟩:=y;refine Uz h (λy=>aC [(0,.int .u32 y.1),(2,iZ y.2)]) (λy=>Qr S W []) (λy h=>?_) (λ_ h=>?_)
  ·obtain⟨x2,n1⟩:=y;refine wk 5 λh=>?_
   refine Qp h (λG h=>wZ W<|CW td9 Ql O G ?_);refine wk 2 λh G1 h=>?_;exact TP h (λn2 hs h=>wZ W<|bX (v:=iZ n2) (by subst hs;rfl)<|eT<|Qv H<|L _ h)
  exact wk 9999 trivial
 exact wk 9999 trivial
variable{a:List Int}
theorem vg{Q:Int->Prop}(h:oe a Q)(L:∀r1,Q r1->R (iZ r1) S) :Ctr prog 97 [bE a] S R:=by
 refine ar func97 rfl ntmps97 results97 Ql (λW H=>?_);refine wk 13 λh G h=>?_;refine Rf h (λy=>aC [(0,bE a),(3,iZ y)]) (λy=>Qr S W []) Rj (λi _ h=>?_);refine wk 6 λh=>?_
 refine cZ h O (λB h=>?_) (λB h=>?_)
 ·refine wk 11 λh G1 h=>?_;refine cZ h O (λB1 h=>?_) (λB1 h=>?_)
  ·refine wk 8 λh G2 h G3 h=>?_;refine aj<|Qn O<|nf h λr h=>?_
   refine wk 3 λh G4 h=>?_;exact uZ<|Qv H<|L _ h
  exact wk 9999 trivial
 refine wk 5 λh=>?_
 exact uZ<|Qv H<|L _ h
variable{Q:List Int->Prop}
theorem bN(h:bO a Q)(L:∀r1,Q r1->R (bE r1) S) :Ctr prog 102 [bE a] S R:=by
 refine ar func102 rfl ntmps102 results102 Ql (λW H=>?_);refine wk 10 λh=>?_
 refine Uz h (λy=>aC [(0,bE a),(3,iZ y)]) (λy=>Qr S W []) (λn h=>?_) (λ_ h=>?_)
 ·refine wk 6 λh=>?_
  refine cZ h O (λB h=>?_) (λB h=>?_);·exact wk 9999 trivial
  refine kZ<|dj<|wZ W<|aT jZ pL li (es:=[]) O (kk:=1) O O O O O O (λg1=>?_)
  refine wk 2 λh=>?_
  refine Qp h (λG h=>aj<|n_ jZ m_ dZ (λ_=>O) O (l:=0) (h:=n) O O G<|Qp h (λG1 h=>wZ W<|dD jZ qx pL li (es:=([]:List Int)) (xs:=(fV a 0 n)) (enc:=AV.int .u32) (aZ 20 O) QK (O) (kk:=1) O O (λ_=>O) (λ_=>O) G1 O (λ_=>bm) (λg2=>?_)))
  refine wk 2 λh=>?_
  exact uZ<|ah (v:=.sl 1 W 20 g2 0 ((([]:List Int)++(fV a 0 n)).length)) O (am<|aX (k:=20) (xs:=List.map (AV.int .u32) (([]:List Int)++(fV a 0 n))) O (v':=bE (([]:List Int)++(fV a 0 n))) (aR O) (Tl H<|L _ h))
 refine bZ<|Rf h (λy=>aC [(0,bE a),(3,iZ y)]) (λy=>Qr S W []) Rj (λn1 _ h=>?_);refine wk 6 λh=>?_
 refine Te h O O (λB1 h=>?_) (λB1 h=>?_);·exact wk 9999 trivial
 refine wk 7 λh=>?_
 refine Yo O O ?_;exact wk 9999 trivial
variable{b:List Int}
theorem jx{Q:Int->Prop}(h:ft a b Q)(L:∀r1,Q r1->R (iZ r1) S) :Ctr prog 56 [bE a,bE b] S R:=by
 refine ar func56 rfl ntmps56 results56 Ql (λW H=>?_);refine wk 7 λh=>?_
 refine aj<|Qn O<|bN h λa1 h=>Uk (bE b) O<|aj<|Qn O<|bN h λb1 h=>?_
 refine wk 12 λh=>?_
 refine cZ h O (λB h=>?_) (λB h=>?_)
 ·refine wk 9 λh=>?_
  refine cZ h O (λB1 h=>?_) (λB1 h=>?_)
  ·refine wk 4 λh=>?_
   exact uZ<|Qv H<|L _ h
  refine wk 5 λh=>?_
  exact uZ<|Qv H<|L _ h
 refine wk 10 λh G h=>?_;refine Rf h (λy=>aC [(0,bE a1),(1,bE b1),(5,iZ y)]) (λy=>Qr S W []) Rj (λi _ h=>?_);refine wk 6 λh=>?_
 refine cZ h O (λB2 h=>?_) (λB2 h=>?_)
 ·refine kZ<|qZ<|bZ<|qZ<|qZ<|Qp h (λG1 h=>Qp h (λG2 h=>Vc.Qf mixed W (λ_=>eo) Ql ?_));refine wk 2 λh=>?_
  refine dP O O<|ek jZ m_ dZ (λ_=>O) O O G1 ?_;refine wk 3 λh=>?_
  refine dP O O<|ek jZ m_ dZ (λ_=>O) O O G2 ?_;refine wk 3 λh=>?_
  refine cZ h O (λB3 h=>?_) (λB3 h=>?_)
  ·refine wk 4 λh=>?_
   exact uZ<|Qv H<|L _ h
  refine kZ<|qZ<|Qp h (λG3 h=>Qp h (λG4 h=>Vc.Qf mixed W (λ_=>eo) Ql ?_));refine wk 2 λh=>?_
  refine dP O O<|ek jZ m_ dZ (λ_=>O) O O G3 ?_;refine wk 3 λh=>?_
  refine dP O O<|ek jZ m_ dZ (λ_=>O) O O G4 ?_;refine wk 3 λh=>?_
  refine cZ h O (λB4 h=>?_) (λB4 h=>?_);·exact dj<|RJ (iZ 1) O<|eT<|Qv H<|L _ h
  exact wk 9999 trivial
 refine wk 5 λh=>?_
 exact uZ<|Qv H<|L _ h
variable{n:Int}
theorem rx(h:nt n Q)(L:∀r1,Q r1->R (bE r1) S) :Ctr prog 100 [iZ n] S R:=by
 refine ar func100 rfl ntmps100 results100 Ql (λW H=>?_);refine wk 10 λh=>?_
 refine cZ h O (λB h=>?_) (λB h=>?_);·exact wk 9999 trivial
 refine wk 8 λh=>?_
 exact wZ W<|aT jZ pL li (es:=[.int .u32 (IntKind.wrap .u32 n),.int .u32 (IntKind.wrap .u32<|n/2^(Int.toNat 32))]) O (kk:=1) O O O O O O (λg1=>fh (aU (k:=10) (xs:=List.map (AV.int .u32) [(IntKind.wrap .u32 n),(IntKind.wrap .u32<|n/2^(Int.toNat 32))]) O (es:=[(10,bE [(IntKind.wrap .u32 n),(IntKind.wrap .u32<|n/2^(Int.toNat 32))])]) (fc (aR O)<|fn) (m:=[]) (sn)) (aj<|Qn O<|bN h λr h=>RJ (bE r) O<|eT<|Qv H<|L _ h))
theorem tX{b:Int}{Q:List Int->Int->Prop}(h:jv a b Q)(L:∀r1 r2,Q r1 r2->R (.tuple [bE r1,AV.int .u32 r2]) S) :Ctr prog 156 [bE a,AV.int .u32 b] S R:=by
 refine ar func156 rfl ntmps156 results156 Ql (λW H=>?_);refine wk 9 λh=>?_
 refine Qp h (λG h=>wZ W<|fk jZ qx pL (enc:=AV.int .u32) (z':=0) li (kk:=1) O O O G (λg1=>?_))
 refine wk 15 λh G1 h=>?_;refine Rf h (λy=>aC [(0,bE a),(1,.int .u32 b),(6,.sl 1 W 11 g1 0 y.2.2.length),(7,.int .u64 y.1),(8,iZ y.2.1)]) (λy=>Qr S W [(11,.arr 1 (List.map (AV.int .u32) y.2.2),g1)]) (canon (fZ<|fZ<|fc (VW.QO QK)<|fZ<|fZ<|fn)<|sc O<|sn) (λy _ h=>?_);obtain⟨rest,i,out⟩:=y;refine wk 6 λh=>?_
 refine cZ h O (λB h=>?_) (λB h=>?_)
 ·refine wk 13 λh G2 h=>?_;refine TP h (λSJ hs h=>wZ W<|bX (v:=.int .u64 SJ) (by subst hs;rfl) ?_);refine wk 8 λh=>?_
  refine Qp h (λG3 h=>aj<|Io O O G3 ?_);refine wk 8 λh J h=>?_;refine Qp h (λG4 h=>aj<|sI O O G4 ?_);exact wk 9999 trivial
 refine wk 4 λh=>?_
 refine fh (aU (k:=11) (xs:=List.map (AV.int .u32) out) O (es:=[(7,.int .u64 rest),(39,bE out)]) (fZ<|fc (aR O)<|fn) (m:=[]) (sn)) (aj<|Qn O<|bN h λr h=>?_);refine wk 5 λh=>?_
 exact uZ<|ah (v:=bE r) O<|ah (v:=.int .u32 (IntKind.wrap .u32 rest)) O<|am<|ak H RE<|L _ _ h
theorem mP{Q:Int->Prop}(h:fG x Q)(L:∀r1,Q r1->R (iZ r1) S) :Ctr prog 157 [AV.int .u32 x] S R:=by
 refine ar func157 rfl ntmps157 results157 Ql (λW H=>?_);refine wk 7 λh=>?_
 refine aj<|Qn O<|nf h λr h=>?_
 refine wk 3 λh G h=>?_;exact uZ<|Qv H<|L _ h
theorem ve(h:fE a n Q)(L:∀r1,Q r1->R (bE r1) S) :Ctr prog 158 [bE a,iZ n] S R:=by
 refine ar func158 rfl ntmps158 results158 Ql (λW H=>?_);refine wk 9 λh G h=>?_;refine Qp h (λG1 h=>wZ W<|fk jZ qx pL (enc:=AV.int .u32) (z':=0) li (kk:=1) O O O G1 (λg1=>?_))
 refine wk 10 λh=>?_
 refine Rf h (λy=>aC [(1,iZ n),(5,.sl 1 W 12 g1 0 y.2.length),(13,bE a),(14,iZ (a.length:Int)),(15,iZ y.1)]) (λy=>Qr S W [(12,.arr 1 (List.map (AV.int .u32) y.2),g1)]) (canon (fZ<|fc (VW.QO QK)<|fZ<|fZ<|fZ<|fn)<|sc O<|sn) (λy _ h=>?_);obtain⟨x,out⟩:=y;refine wk 5 λh=>?_
 refine cZ h O (λB h=>?_) (λB h=>?_);·refine wk 16 λh G2 h=>?_;refine Qp h (λG3 h=>aj<|wg O O G3<|TP h (λy1 hs h=>wZ W<|bX (v:=.int .u64 y1) (by subst hs;rfl) ?_));exact wk 9999 trivial
 refine wk 6 λh=>?_
 exact uZ<|ah (v:=.sl 1 W 12 g1 0 out.length) O<|am<|aX (k:=12) (xs:=List.map (AV.int .u32) out) O (v':=bE out) (aR O)<|Tl H<|L _ h
theorem tZ(q k:Nat){S:St}{R:AV->St->Prop}(h:fE a n Q)(L:∀r1 g,Q r1->R (.sl 1 q k g 0 r1.length) (S.set q k (.arr 1 (List.map (AV.int .u32) r1)) g)) :Ctr prog 158 [bE a,iZ n] S R:=by
 unfold fE at h;refine ar func158 rfl ntmps158 results158 Ql (λW H=>?_);refine wk 9 λh G h=>?_;refine Qp h (λG1 h=>wZ W<|fk jZ qx pL (enc:=AV.int .u32) (z':=0) li (kk:=1) O O O G1 (λg1=>?_))
 refine wk 10 λh=>?_
 refine Rf h (λy=>aC [(1,iZ n),(5,.sl 1 W 12 g1 0 y.2.length),(13,bE a),(14,iZ (a.length:Int)),(15,iZ y.1)]) (λy=>Qr S W [(12,.arr 1 (List.map (AV.int .u32) y.2),g1)]) (canon (fZ<|fc (VW.QO QK)<|fZ<|fZ<|fZ<|fn)<|sc O<|sn) (λy _ h=>?_);obtain⟨x,out⟩:=y;refine wk 5 λh=>?_
 refine cZ h O (λB h=>?_) (λB h=>?_);·refine wk 16 λh G2 h=>?_;refine Qp h (λG3 h=>aj<|wg O O G3<|TP h (λy1 hs h=>wZ W<|bX (v:=.int .u64 y1) (by subst hs;rfl) ?_));exact wk 9999 trivial
 refine wk 6 λh=>?_
 refine uZ<|ah (v:=.sl 1 W 12 g1 0 out.length) O<|am ?_;show dz _ (.sl 1 W 12 g1 0 out.length) _;exact sd q k H O (λg'=>L _ g' h)
theorem dr{i:Int}{Q:Int->Prop}(h:da a i Q)(L:∀r1,Q r1->R (AV.int .u64 r1) S) :Ctr prog 103 [bE a,iZ i] S R:=by
 refine ar func103 rfl ntmps103 results103 Ql (λW H=>?_);refine wk 12 λh=>?_
 refine cZ h O (λB h=>?_) (λB h=>?_);·refine wk 9 λh G h=>?_;exact uZ<|Qv H<|L _ h
 refine wk 5 λh=>?_
 exact uZ<|Qv H<|L _ h
variable{u v:List Int}{uo ul:Nat}
theorem u_{q0 k0 g0:Nat}{Q:List Int->Bool->Prop}(h:oc u uo ul v n Q)(L:∀r1 r2,Q r1 r2->R (AV.bool r2) (Qk S [(q0,k0,.arr 1 (List.map (AV.int .u32) r1),g0)])) :Ctr prog 159 [.sl 1 q0 k0 g0 uo ul,bE v,AV.int .u64 n] (Qk S [(q0,k0,.arr 1 (List.map (AV.int .u32) u),g0)]) R:=by
 refine ar func159 rfl ntmps159 results159 Ql (λW H=>?_);have D:DX [(q0,k0,.arr 1 (List.map (AV.int .u32) u),g0)]:=dx1;have F:=λX' e=>aJ (S:=S) (rg:=W) (X:=[(q0,k0,.arr 1 (List.map (AV.int .u32) u),g0)]) (X':=X') e H;have A0:=ae D H 0 rfl;refine wk 17 λh=>?_
 refine Rf h (λy=>aC [(0,.sl 1 q0 k0 g0 uo ul),(1,bE v),(2,.int .u64 n),(7,.int .u64 y.1),(8,.int .u64 y.2.1),(12,iZ (ul:Int)),(13,iZ y.2.2.1)]) (λy=>Qr (Qk S [(q0,k0,.arr 1 (List.map (AV.int .u32) y.2.2.2),g0)]) W []) Rj (λy _ h=>?_);obtain⟨carry,borrow,x,u1⟩:=y;refine wk 5 λh=>?_
 refine cZ h O (λB h=>?_) (λB h=>?_)
 ·refine wk 14 λh=>?_
  refine aj<|Qn O<|dr h λr h=>?_
  refine wk 2 λh=>?_
  refine TP h (λRk hs h=>wZ W<|bX (v:=.int .u64 Rk) (by subst hs;rfl) ?_);refine wk 5 λh=>?_
  refine Qp h (λJ h=>aj<|qn jZ m_ dZ O O J<|Qp h (λG h=>?_));refine wk 8 λh=>?_
  refine TP h (λd Wj h=>wZ W<|bX (v:=.int .u64 d) (by subst Wj;rfl) ?_);refine wk 7 λh=>?_
  refine Qp h (λJ1 h=>aj<|qn jZ m_ dZ O O J1<|Qp h (λG1 h=>?_));exact wk 9999 trivial
 refine wk 7 λh=>?_
 exact uZ<|Qv (F _ O)<|L _ _ h
theorem vf{q0 k0 g0:Nat}(h:od u uo ul v Q)(L:∀r1,Q r1->R (.tuple []) (Qk S [(q0,k0,.arr 1 (List.map (AV.int .u32) r1),g0)])) :Ctr prog 160 [.sl 1 q0 k0 g0 uo ul,bE v] (Qk S [(q0,k0,.arr 1 (List.map (AV.int .u32) u),g0)]) R:=by
 refine ar func160 rfl ntmps160 results160 Ql (λW H=>?_);have D:DX [(q0,k0,.arr 1 (List.map (AV.int .u32) u),g0)]:=dx1;have F:=λX' e=>aJ (S:=S) (rg:=W) (X:=[(q0,k0,.arr 1 (List.map (AV.int .u32) u),g0)]) (X':=X') e H;have A0:=ae D H 0 rfl;refine wk 11 λh=>?_
 refine Rf h (λy=>aC [(0,.sl 1 q0 k0 g0 uo ul),(1,bE v),(4,.int .u64 y.1),(7,iZ (ul:Int)),(8,iZ y.2.1)]) (λy=>Qr (Qk S [(q0,k0,.arr 1 (List.map (AV.int .u32) y.2.2),g0)]) W []) Rj (λy _ h=>?_);obtain⟨carry,x,u1⟩:=y;refine wk 5 λh=>?_
 refine cZ h O (λB h=>?_) (λB h=>?_)
 ·refine wk 9 λh=>?_
  refine Qp h (λJ h=>Qp h (λG h=>?_));obtain⟨r,C,h⟩:=h;refine Vc.Qf mixed W (gO [(8,pc (.int .u64 r))]) Ql ?_;refine wk 3 λh=>?_
  refine dP O O<|qn jZ m_ dZ O O J ?_;refine wk 4 λh=>?_
  refine dC (vs:=[bE v,iZ x]) O (vZ<|vZ<|vn) (λ_=>dr C (λ_ hr=>⟨by rw[hr],rfl⟩)) O ?_;refine wk 10 λh=>?_
  refine Qp h (λJ1 h=>aj<|qn jZ m_ dZ O O J1<|Qp h (λG1 h=>?_));refine wk 5 λh=>?_
  refine TP h (λRk hs h=>wZ W<|bX (v:=.int .u64 Rk) (by subst hs;rfl) ?_);exact wk 9999 trivial
 exact VB<|Sy (F _ O)<|L _ h
theorem tY(h:jw a n Q)(L:∀r1,Q r1->R (bE r1) S) :Ctr prog 161 [bE a,iZ n] S R:=by
 refine ar func161 rfl ntmps161 results161 Ql (λW H=>?_);refine wk 8 λh=>?_
 refine Qp h (λG h=>wZ W<|fk jZ qx pL (enc:=AV.int .u32) (z':=0) li (kk:=1) O O O G (λg1=>?_))
 refine wk 10 λh=>?_
 refine Rf h (λy=>aC [(0,bE a),(1,iZ n),(5,.sl 1 W 9 g1 0 y.2.length),(11,iZ (a.length:Int)),(12,iZ y.1)]) (λy=>Qr S W [(9,.arr 1 (List.map (AV.int .u32) y.2),g1)]) (canon (fZ<|fZ<|fc (VW.QO QK)<|fZ<|fZ<|fn)<|sc O<|sn) (λy _ h=>?_);obtain⟨x,out⟩:=y;refine wk 5 λh=>?_
 refine cZ h O (λB h=>?_) (λB h=>?_)
 ·refine wk 13 λh=>?_
  refine aj<|Qn O<|dr h λr h=>?_
  refine wk 3 λh G1 h=>?_;refine aj<|Qn O<|dr h λr1 h=>?_
  refine wk 3 λh=>?_
  refine Qp h (λG2 h=>aj<|we O O G2 ?_);exact wk 9999 trivial
 refine wk 6 λh=>?_
 exact uZ<|ah (v:=.sl 1 W 9 g1 0 out.length) O<|am<|aX (k:=9) (xs:=List.map (AV.int .u32) out) O (v':=bE out) (aR O)<|Tl H<|L _ h
theorem mO{Q:List Int->List Int->Option Int->Prop}(h:jl a b Q)(L:∀r1 r2 r3,Q r1 r2 r3->R (.tuple [bE r1,bE r2,bd 36 r3]) S) :Ctr prog 99 [bE a,bE b] S R:=by
 refine ar func99 rfl ntmps99 results99 Ql (λW H=>?_);refine wk 9 λh=>?_
 refine aj<|Qn O<|bN h λa1 h=>Uk (bE b) O<|aj<|Qn O<|bN h λb1 h=>?_
 refine wk 10 λh=>?_
 refine cZ h O (λB h=>?_) (λB h=>?_)
 ·refine wk 7 λh=>?_
  exact uZ<|ah (v:=.nil) O<|ah (v:=.nil) O<|ah (v:=.iface 36 (iZ 8)) O<|am<|ak H (VW.QF<|QJ (VW.QC)<|QJ (VW.QC)<|vZ<|vn)<|L _ _ _ h
 refine wk 6 λh=>?_
 refine aj<|Qn O<|jx h λr h=>aj<|Fv O O<|nZ<|cZ h O (λB1 h=>?_) (λB1 h=>?_)
 ·refine wk 7 λh=>?_
  exact uZ<|ah (v:=.nil) O<|ah (v:=bE a1) O<|ah (v:=.Qg) O<|am<|ak H (VW.QF<|QJ (VW.QC)<|vZ<|vZ<|vn)<|L _ _ _ h
 refine wk 8 λh=>?_
 refine cZ h O (λB2 h=>?_) (λB2 h=>?_)
 ·refine wk 6 λh G h=>?_;refine aj<|Qn O<|tX h λr1 r2 h=>?_
  refine wk 11 λh=>?_
  refine aj<|Qn O<|rx h λr3 h=>?_
  refine wk 4 λh=>?_
  exact uZ<|ah (v:=bE r1) O<|ah (v:=bE r3) O<|ah (v:=.Qg) O<|am<|ak H RE<|L _ _ _ h
 refine wk 9 λh G1 h G2 h=>?_;refine aj<|Qn O<|mP h λn h=>?_
 refine wk 6 λh=>?_
 refine aj<|Qn O<|ve h λr4 h=>?_
 refine wk 2 λh=>?_
 refine Qp h (λG3 h=>aj<|n_ jZ m_ dZ (λ_=>O) O (l:=0) (h:=(b1.length:Int)) O O G3<|TP h (λv hs h=>wZ W<|bX (v:=bE v) (by subst hs;rfl) ?_));refine wk 5 λh=>?_
 refine aj<|Qn O<|tZ W 61 h λu g1 h=>aM bm ?_
 refine wk 3 λh=>?_
 refine Qp h (λG4 h=>Qp h (λG5 h=>Qp h (λG6 h=>Qp h (λG7 h=>Vc.Qf mixed W (λ_=>eo) Ql ?_))));refine wk 3 λh=>?_
 refine dP O O<|cL O O G4<|dP O O<|ek jZ m_ dZ (λ_=>O) O O G5 ?_;refine wk 5 λh=>?_
 refine dP O O<|cL O O G6<|dP O O<|ek jZ m_ dZ (λ_=>O) O O G7 ?_;refine wk 12 λh G8 h=>?_
 refine Qp h (λG9 h=>wZ W<|fk jZ qx pL (enc:=AV.int .u32) (z':=0) li (kk:=1) O O O G9 (λg2=>?_))
 refine wk 8 λh G10 h=>?_;refine TP h (λj Wj h=>wZ W<|bX (v:=iZ j) (by subst Wj;rfl)<|nZ<|bZ<|SB h (g1,g2) (λy=>aC [(4,.sl 1 W 81 y.2.2 0 y.1.2.2.length),(9,iZ n),(10,bE v),(11,.sl 1 W 61 y.2.1 0 y.1.2.1.length),(12,.int .u64 (IntKind.wrap .u64<|P9 v<|(v.length:Int)-1)),(13,.int .u64 (IntKind.wrap .u64<|P9 v<|(v.length:Int)-2)),(14,iZ y.1.1)]) (λy=>Qr S W [(61,.arr 1 (List.map (AV.int .u32) y.1.2.1),y.2.1),(81,.arr 1 (List.map (AV.int .u32) y.1.2.2),y.2.2)]) (canon (fc (VW.QO QK)<|kD<|fZ<|fZ<|fn)<|sc O<|sc O<|sn) (λy _ h=>?_));obtain⟨⟨j1,u1,q⟩,⟨g3,g4⟩⟩:=y;refine wk 6 λh=>?_
 refine cZ h O (λB3 h=>?_) (λB3 h=>?_)
 ·refine kZ<|qZ<|bZ<|qZ<|Qp h (λG11 h=>Qp h (λJ h=>Qp h (λG12 h=>Qp h (λG13 h=>Qp h (λJ1 h=>Vc.Qf mixed W (λ_=>eo) Ql ?_)))));refine wk 4 λh=>?_
  refine dP O O<|i_ O O G11<|dP O O<|aV jZ m_ dZ O O J ?_;refine wk 7 λh=>?_
  refine dP O O<|i_ O O G12<|dP O O<|cL O O G13<|dP O O<|aV jZ m_ dZ O O J1 ?_;refine wk 6 λh=>?_
  refine Qp h (λG14 h=>Qp h (λG15 h=>Vc.Qf mixed W (λ_=>eo) Ql ?_));refine wk 2 λh=>?_
  refine dP O O<|Io O O G14 ?_;refine wk 2 λh=>?_
  refine dP O O<|sI O O G15 ?_;refine wk 3 λh=>?_
  refine Ud (γ:=Nat×Nat) h (λy=>aC [(4,.sl 1 W 81 y.2.2 0 q.length),(9,iZ n),(10,bE v),(11,.sl 1 W 61 y.2.1 0 u1.length),(12,.int .u64 (IntKind.wrap .u64<|P9 v<|(v.length:Int)-1)),(13,.int .u64 (IntKind.wrap .u64<|P9 v<|(v.length:Int)-2)),(14,iZ j1),(16,.int .u64 y.1)]) (λy=>Qr S W [(61,.arr 1 (List.map (AV.int .u32) u1),y.2.1),(81,.arr 1 (List.map (AV.int .u32) q),y.2.2)]) (λy h=>?_) (λ_ h=>?_)
  ·obtain⟨WH,⟨g5,g6⟩⟩:=y;refine Ud (γ:=Nat×Nat) h (λy=>aC [(4,.sl 1 W 81 y.2.2 0 q.length),(9,iZ n),(10,bE v),(11,.sl 1 W 61 y.2.1 0 y.1.2.length),(12,.int .u64 (IntKind.wrap .u64<|P9 v<|(v.length:Int)-1)),(13,.int .u64 (IntKind.wrap .u64<|P9 v<|(v.length:Int)-2)),(14,iZ j1),(16,.int .u64 y.1.1)]) (λy=>Qr S W [(61,.arr 1 (List.map (AV.int .u32) y.1.2),y.2.1),(81,.arr 1 (List.map (AV.int .u32) q),y.2.2)]) (λy h=>?_) (λ_ h=>?_);·obtain⟨⟨Yk,u2⟩,⟨g7,g8⟩⟩:=y;exact wk 9999 trivial
   refine wk 9 λh G17 h G18 h=>?_;refine Qp h (λYD h=>aj<|rn jZ m_ dZ O (l:=j1) (h:=((j1+(v.length:Int))+1)) O O YD ?_);refine wk 2 λh=>?_
   refine aj<|Qn O<|bh (Ao<|aZ 61 O)<|u_ h λu3 r5 h=>aM bm<|Qp h (λhl h=>nZ<|cZ h O (λB4 h=>?_) (λB4 h=>?_))
   ·refine wk 14 λh G19 h G20 h=>?_;refine Qp h (λaaM h=>aj<|rn jZ m_ dZ O (l:=j1) (h:=((j1+(v.length:Int))+1)) O O aaM (Uk (bE v) O<|aj<|Qn O<|bh (Ao<|aZ 61 O)<|vf h λu4 h=>aM bm<|Qp h (λTk h=>?_)));exact wk 9999 trivial
   exact wk 9999 trivial
  refine bZ<|SB h (g3,g4) (λy=>aC [(4,.sl 1 W 81 y.2.2 0 q.length),(9,iZ n),(10,bE v),(11,.sl 1 W 61 y.2.1 0 u1.length),(12,.int .u64 (IntKind.wrap .u64<|P9 v<|(v.length:Int)-1)),(13,.int .u64 (IntKind.wrap .u64<|P9 v<|(v.length:Int)-2)),(14,iZ j1),(16,.int .u64 y.1.1),(17,.int .u64 y.1.2)]) (λy=>Qr S W [(61,.arr 1 (List.map (AV.int .u32) u1),y.2.1),(81,.arr 1 (List.map (AV.int .u32) q),y.2.2)]) Rj (λy _ h=>?_);obtain⟨⟨RU,rest⟩,⟨g9,g10⟩⟩:=y;refine Ud (γ:=Nat×Nat) h (λy=>aC [(4,.sl 1 W 81 y.2.2 0 q.length),(9,iZ n),(10,bE v),(11,.sl 1 W 61 y.2.1 0 u1.length),(12,.int .u64 (IntKind.wrap .u64<|P9 v<|(v.length:Int)-1)),(13,.int .u64 (IntKind.wrap .u64<|P9 v<|(v.length:Int)-2)),(14,iZ j1),(16,.int .u64 RU),(17,.int .u64 rest)]) (λy=>Qr S W [(61,.arr 1 (List.map (AV.int .u32) u1),y.2.1),(81,.arr 1 (List.map (AV.int .u32) q),y.2.2)]) (λy h=>?_) (λ_ h=>?_)
  ·obtain⟨_,⟨g11,g12⟩⟩:=y;refine wk 12 λh=>?_
   refine TP h (λSJ TT h=>wZ W<|bX (v:=.int .u64 SJ) (by subst TT;rfl) ?_);refine wk 6 λh=>?_
   refine cZ h O (λB5 h=>?_) (λB5 h=>?_);·refine xnZ O<|rC ?_;exact wk 9999 trivial
   exact wk 9999 trivial
  refine wk 5 λh=>?_
  refine T8 h O O (λB6 h=>?_) (λB6 h=>?_);·exact wk 9999 trivial
  refine wk 17 λh=>?_
  refine U_ O O ?_;exact wk 9999 trivial
 refine wk 4 λh=>?_
 refine fh (aU (k:=81) (xs:=List.map (AV.int .u32) q) O (es:=[(9,iZ n),(11,.sl 1 W 61 g3 0 u1.length),(169,bE q)]) (fZ<|fc (kz O)<|fc (aR O)<|fn) (m:=[(61,.arr 1 (List.map (AV.int .u32) u1),g3)]) (sc O<|sn)) (aj<|Qn O<|bN h λq1 h=>?_);refine wk 2 λh=>?_
 refine fh (aU (k:=61) (xs:=List.map (AV.int .u32) u1) O (es:=[(170,bE q1),(171,bE u1),(172,iZ n)]) (fZ<|fc (aR O)<|fZ<|fn) (m:=[]) (sn)) (aj<|Qn O<|tY h λr6 h=>aj<|Qn O<|bN h λr7 h=>?_);refine wk 4 λh=>?_
 exact uZ<|ah (v:=bE q1) O<|ah (v:=bE r7) O<|ah (v:=.Qg) O<|am<|ak H RE<|L _ _ _ h
theorem qI(h:lW a b Q)(L:∀r1,Q r1->R (bE r1) S) :Ctr prog 98 [bE a,bE b] S R:=by
 refine ar func98 rfl ntmps98 results98 Ql (λW H=>?_);refine wk 7 λh=>?_
 refine aj<|Qn O<|bN h λa1 h=>Uk (bE b) O<|aj<|Qn O<|bN h λb1 h=>?_
 refine wk 5 λh=>?_
 refine Rf h (λy=>aC [(0,bE y.1),(1,bE y.2)]) (λy=>Qr S W []) Rj (λy _ h=>?_);obtain⟨a2,b2⟩:=y;refine wk 7 λh=>?_
 refine cZ h O (λB h=>?_) (λB h=>?_)
 ·refine wk 6 λh=>?_
  refine aj<|Qn O<|mO h λr r1 r2 h=>?_
  exact wk 9999 trivial
 refine wk 6 λh=>?_
 exact uZ<|Qv H<|L _ h
theorem g_(h:fr a b Q)(L:∀r1,Q r1->R (bE r1) S) :Ctr prog 54 [bE a,bE b] S R:=by
 refine ar func54 rfl ntmps54 results54 Ql (λW H=>?_);refine wk 11 λh G h=>?_;refine Qp h (λG1 h=>wZ W<|fk jZ qx pL (enc:=AV.int .u32) (z':=0) li (kk:=1) O O O G1 (λg1=>?_))
 refine wk 10 λh=>?_
 refine Rf h (λy=>aC [(1,bE b),(5,.sl 1 W 16 g1 0 y.2.length),(17,bE a),(18,iZ (a.length:Int)),(19,iZ y.1)]) (λy=>Qr S W [(16,.arr 1 (List.map (AV.int .u32) y.2),g1)]) (canon (fZ<|fc (VW.QO QK)<|fZ<|fZ<|fZ<|fn)<|sc O<|sn) (λy _ h=>?_);obtain⟨x,out⟩:=y;refine wk 5 λh=>?_
 refine cZ h O (λB h=>?_) (λB h=>?_)
 ·refine wk 23 λh G2 h=>?_;refine Rf h (λy=>aC [(1,bE b),(5,.sl 1 W 16 g1 0 y.2.2.length),(6,iZ x),(7,.int .u32 (P9 a x)),(8,.int .u64 y.1),(17,bE a),(18,iZ (a.length:Int)),(19,iZ x),(24,bE b),(25,iZ (b.length:Int)),(26,iZ y.2.1)]) (λy=>Qr S W [(16,.arr 1 (List.map (AV.int .u32) y.2.2),g1)]) Rj (λy _ h=>?_);obtain⟨carry,x1,Re⟩:=y;refine wk 5 λh=>?_
  refine cZ h O (λB1 h=>?_) (λB1 h=>?_);·refine wk 28 λh G3 h G4 h J h=>?_;refine TP h (λRk hs h=>wZ W<|bX (v:=.int .u64 Rk) (by subst hs;rfl) ?_);exact wk 9999 trivial
  exact wk 9999 trivial
 refine wk 4 λh=>?_
 exact fh (aU (k:=16) (xs:=List.map (AV.int .u32) out) O (es:=[(65,bE out)]) (fc (aR O)<|fn) (m:=[])<|sn)<|aj<|Qn O<|bN h λr h=>RJ (bE r) O<|eT<|Qv H<|L _ h
theorem wH(h:md a b Q)(L:∀r1,Q r1->R (bE r1) S) :Ctr prog 55 [bE a,bE b] S R:=by
 refine ar func55 rfl ntmps55 results55 Ql (λW H=>?_);refine wk 12 λh G h=>?_;refine Qp h (λG1 h=>wZ W<|fk jZ qx pL (enc:=AV.int .u32) (z':=0) li (kk:=1) O O O G1 (λg1=>?_))
 refine wk 14 λh=>?_
 refine Rf h (λy=>aC [(0,bE a),(1,bE b),(5,.sl 1 W 14 g1 0 y.2.2.length),(6,.int .u64 y.1),(16,iZ ((Int.toNat<|(max (a.length:Int) (b.length:Int))+1):Int)),(17,iZ y.2.1)]) (λy=>Qr S W [(14,.arr 1 (List.map (AV.int .u32) y.2.2),g1)]) (canon (fZ<|fZ<|fc (VW.QO QK)<|fZ<|fZ<|fZ<|fn)<|sc O<|sn) (λy _ h=>?_);obtain⟨carry,x,out⟩:=y;refine wk 5 λh=>?_
 refine cZ h O (λB h=>?_) (λB h=>?_)
 ·refine wk 13 λh=>?_
  refine aj<|Qn O<|dr h λr h=>?_
  refine wk 2 λh=>?_
  refine aj<|Qn O<|dr h λr1 h=>?_
  refine wk 2 λh=>?_
  refine TP h (λRk hs h=>wZ W<|bX (v:=.int .u64 Rk) (by subst hs;rfl) ?_);exact wk 9999 trivial
 refine wk 4 λh=>?_
 exact fh (aU (k:=14) (xs:=List.map (AV.int .u32) out) O (es:=[(37,bE out)]) (fc (aR O)<|fn) (m:=[])<|sn)<|aj<|Qn O<|bN h λr2 h=>RJ (bE r2) O<|eT<|Qv H<|L _ h
theorem qH{Q:List Int->Option Int->Prop}(h:lV a b Q)(L:∀r1 r2,Q r1 r2->R (.tuple [bE r1,bd 36 r2]) S) :Ctr prog 57 [bE a,bE b] S R:=by
 refine ar func57 rfl ntmps57 results57 Ql (λW H=>?_);refine wk 10 λh=>?_
 refine aj<|Qn O<|jx h λr h=>aj<|Fv O O<|nZ<|cZ h O (λB h=>?_) (λB h=>?_)
 ·refine wk 6 λh=>?_
  exact uZ<|ah (v:=.nil) O<|ah (v:=.iface 36 (iZ 3)) O<|am<|ak H (VW.QF<|QJ (VW.QC)<|vZ<|vn)<|L _ _ h
 refine wk 5 λh=>?_
 refine Qp h (λG h=>wZ W<|fk jZ qx pL (enc:=AV.int .u32) (z':=0) li (kk:=1) O O O G (λg1=>?_))
 refine wk 14 λh=>?_
 refine Rf h (λy=>aC [(0,bE a),(1,bE b),(6,.sl 1 W 17 g1 0 y.2.2.length),(7,.int .u64 y.1),(19,iZ ((Int.toNat (a.length:Int)):Int)),(20,iZ y.2.1)]) (λy=>Qr S W [(17,.arr 1 (List.map (AV.int .u32) y.2.2),g1)]) (canon (fZ<|fZ<|fc (VW.QO QK)<|fZ<|fZ<|fZ<|fn)<|sc O<|sn) (λy _ h=>?_);obtain⟨borrow,x,out⟩:=y;refine wk 5 λh=>?_
 refine cZ h O (λB1 h=>?_) (λB1 h=>?_)
 ·refine wk 12 λh=>?_
  refine aj<|Qn O<|dr h λr1 h=>?_
  refine wk 2 λh=>?_
  refine aj<|Qn O<|dr h λr2 h=>?_
  refine wk 3 λh=>?_
  refine TP h (λd hs h=>wZ W<|bX (v:=.int .u64 d) (by subst hs;rfl) ?_);exact wk 9999 trivial
 refine wk 4 λh=>?_
 refine fh (aU (k:=17) (xs:=List.map (AV.int .u32) out) O (es:=[(40,bE out)]) (fc (aR O)<|fn) (m:=[])<|sn)<|aj<|Qn O<|bN h λr3 h=>?_
 refine wk 3 λh=>?_
 exact uZ<|ah (v:=bE r3) O<|ah (v:=.Qg) O<|am<|ak H RE<|L _ _ h
end Go.Proofs.YtbnjpdocceckeaaGreat
namespace Go.Proofs.YtbnjpdocceckeaaGreat
open Go.Gg Tryz
set_option maxRecDepth 100000
set_option maxHeartbeats 2000000
variable{S:St}{R:AV->St->Prop}
theorem gc{a b:List Int}{Q:Bool->Prop}(h:bw a b Q)(L:∀r1,Q r1->R (AV.bool r1) S):Ctr prog 14 [aF a,aF b] S R:=by
 refine ar func14 rfl ntmps14 results14 Ql (λW H=>?_);refine wk 13 λh=>?_
 refine cZ h O (λB h=>?_) (λB h=>?_)
 ·refine wk 4 λh=>?_
  exact uZ<|Qv H<|L _ h
 refine wk 9 λh=>?_
 refine Rf h (λy=>aC [(0,aF a),(1,aF b),(12,iZ (a.length:Int)),(13,iZ y)]) (λy=>Qr S W []) Rj (λx _ h=>?_);refine wk 5 λh=>?_
 refine cZ h O (λB1 h=>?_) (λB1 h=>?_)
 ·refine wk 9 λh=>?_
  refine Qp h (λG h=>Qp h (λG1 h=>Vc.Qf mixed W (λ_=>eo) Ql ?_));refine wk 2 λh=>?_
  refine dP O O<|ek bW Se dZ (λ_=>O) O O G ?_;refine wk 3 λh=>?_
  refine dP O O<|ek bW Se dZ (λ_=>O) O O G1 ?_;refine wk 3 λh=>?_
  refine cZ h O (λB2 h=>?_) (λB2 h=>?_)
  ·refine wk 4 λh=>?_
   exact uZ<|Qv H<|L _ h
  exact wk 9999 trivial
 refine wk 5 λh=>?_
 exact uZ<|Qv H<|L _ h
variable{Q:QB->Prop}
theorem eO{neg:Bool}{num den:List Int}(h:dc neg num den Q)(L:∀r1,Q r1->R (dw r1) S):Ctr prog 49 [AV.bool neg,bE num,bE den] S R:=by
 refine ar func49 rfl ntmps49 results49 Ql (λW H=>?_);refine wk 8 λg1 h=>?_;refine aj<|Qn O<|vg h λr h=>aj<|LS O O<|nZ<|cZ h O (λB h=>?_) (λB h=>?_)
 ·refine dj<|aj<|cx Mx ET Jf HH pB (ps:=[]) O O (v:=.agg [.bool false,.nil,.nil]) O ?_;refine wk 2 λh=>?_
  exact uZ<|bn (aZ 6 O) pB dZ z_ O O (v:=.agg [.bool false,.nil,.nil]) O<|am<|ak H (VW.Sb<|vZ<|QJ (VW.QC)<|QJ (VW.QC)<|vn)<|L _ h
 refine wk 5 λh=>?_
 refine aj<|Qn O<|qI h λg2 h=>?_
 refine wk 6 λh=>?_
 refine aj<|Qn O<|mO h λr1 r2 r3 h=>?_
 refine wk 12 λh=>?_
 refine aj<|Qn O<|mO h λr4 r5 r6 h=>?_
 refine wk 13 λh=>?_
 refine aj<|cx Mx ET Jf HH pB (ps:=[(0,.bool neg),(1,bE r1),(2,bE r4)]) O O (v:=.agg [.bool neg,bE r1,bE r4]) O ?_;refine wk 2 λh=>?_
 exact uZ<|bn (aZ 6 O) pB dZ z_ O O (v:=.agg [.bool neg,bE r1,bE r4]) O<|am<|Tl H<|L _ h
variable{n:Int}
theorem tN{Q:List Int->Prop}(h:mL n Q)(L:∀r1,Q r1->R (bE r1) S) :Ctr prog 50 [iZ n] S R:=by
 refine ar func50 rfl ntmps50 results50 Ql (λW H=>?_);refine wk 10 λh=>?_
 refine cZ h O (λB h=>?_) (λB h=>?_)
 ·refine dj<|wZ W<|aT jZ pL li (es:=[.int .u32 0,.int .u32 2147483648]) O (kk:=1) O O O O O O (λg1=>?_)
  refine wk 2 λh=>?_
  exact uZ<|ah (v:=.sl 1 W 5 g1 0 ([0,2147483648].length)) O<|am<|aX (k:=5) (xs:=List.map (AV.int .u32) [0,2147483648]) O (v':=bE [0,2147483648]) (aR O)<|Tl H<|L _ h
 refine wk 5 λh=>?_
 exact Qp h (λG h=>aj<|M3 O G<|aj<|LQ O O<|aj<|Qn O<|rx h λr h=>RJ (bE r) O<|eT<|Qv H<|L _ h)
theorem lq{Q:List Int->Prop}(h:kh Q)(L:∀r1,Q r1->R (bE r1) S) :Ctr prog 51 [] S R:=by
 refine ar func51 rfl ntmps51 results51 Ql (λW H=>?_);refine wk 6 λh=>?_
 refine wZ W<|aT jZ pL li (es:=[.int .u32 1]) O (kk:=1) O O O O O O (λg1=>?_)
 refine wk 2 λh=>?_
 exact uZ<|ah (v:=.sl 1 W 1 g1 0 ([1].length)) O<|am<|aX (k:=1) (xs:=List.map (AV.int .u32) [1]) O (v':=bE [1]) (aR O)<|Tl H<|L _ h
theorem qE(h:jh n Q)(L:∀r1,Q r1->R (dw r1) S) :Ctr prog 21 [iZ n] S R:=by
 refine ar func21 rfl ntmps21 results21 Ql (λW H=>?_);refine wk 9 λg1 h=>?_;refine aj<|Qn O<|tN h λr h=>aj<|Qn O<|lq h λr1 h=>aj<|Qn O<|eO h λr2 h=>?_
 refine wk 2 λh=>?_
 exact uZ<|bn (aZ 2 O) pB dZ z_ O O (v:=dw r2) O<|am<|Tl H<|L _ h
theorem nS{a:List Int}{Q:Bool->Prop}(h:iR a Q)(L:∀r1,Q r1->R (AV.bool r1) S) :Ctr prog 162 [bE a] S R:=by
 refine ar func162 rfl ntmps162 results162 Ql (λW H=>?_);refine wk 10 λh=>?_
 refine Te h O O (λB h=>?_) (λB h=>?_);·refine wk 16 λh G h G1 h=>?_;exact uZ<|Qv H<|L _ h
 refine wk 9 λh=>?_
 exact uZ<|Qv H<|L _ h
variable{a:QB}
theorem sZ{Q:Bool->Prop}(h:lr a Q)(L:∀r1,Q r1->R (AV.bool r1) S) :Ctr prog 101 [dw a] S R:=by
 refine ar func101 rfl ntmps101 results101 Ql (λW H=>?_);refine wk 6 λg1 h=>?_;refine Ud (γ:=Nat) h (λy=>aC [(1,.ptr W 1 y.2 0 0),(12,.bool y.1)]) (λy=>Qr S W [(1,.arr 3 [dw a],y.2)]) (λy h=>?_) (λ_ h=>?_)
 ·obtain⟨x,g2⟩:=y;refine cZ h O (λB h=>?_) (λB h=>?_)
  ·refine wk 7 λh=>?_
   exact uZ<|Qv H<|L _ h
  refine wk 5 λh=>?_
  refine aj<|Qn O<|nS h λr h=>Uk (.bool r) O<|Te h O O (λB1 h=>?_) (λB1 h=>?_)
  ·refine wk 4 λh=>?_
   refine aj<|Qn O<|nS h λr1 h=>?_
   refine wk 2 λh=>?_
   refine Te h O O (λB2 h=>?_) (λB2 h=>?_)
   ·refine wk 8 λh=>?_
    refine aj<|Qn O<|qI h λr2 h=>gTZ O O B2<|aj<|Qn O<|lq h λr3 h=>gTZ O O B2<|aj<|Qn O<|jx h λr4 h=>?_
    refine wk 5 λh=>?_
    exact uZ<|Qv H<|L _ h
   refine wk 10 λh=>?_
   exact uZ<|Qv H<|L _ h
  refine wk 15 λh=>?_
  exact uZ<|Qv H<|L _ h
 exact wk 9999 trivial
theorem eh{Q:Bool->List Int->List Int->Prop}(h:dm a Q)(L:∀r1 r2 r3,Q r1 r2 r3->R (.tuple [AV.bool r1,bE r2,bE r3]) S) :Ctr prog 53 [dw a] S R:=by
 refine ar func53 rfl ntmps53 results53 Ql (λW H=>?_);refine wk 8 λg1 h=>?_;refine Ud (γ:=Nat) h (λy=>aC [(1,.ptr W 1 y.2 0 0),(13,.bool y.1)]) (λy=>Qr S W [(1,.arr 3 [dw a],y.2)]) (λy h=>?_) (λ_ h=>?_)
 ·obtain⟨x,g2⟩:=y;refine cZ h O (λB h=>?_) (λB h=>?_)
  ·refine dj<|aj<|Qn O<|lq h λr h=>?_
   refine wk 4 λh=>?_
   exact uZ<|ah (v:=.bool false) O<|ah (v:=.nil) O<|ah (v:=bE r) O<|am<|ak H (VW.QF<|vZ<|QJ (VW.QC)<|vZ<|vn)<|L _ _ _ h
  refine kZ<|qZ<|Vc.Qf mixed W (λ_=>eo) Ql ?_;refine wk 10 λh=>?_
  exact uZ<|ah (v:=.bool a.X) O<|ah (v:=bE a.J) O<|ah (v:=bE a.L) O<|am<|ak H RE<|L _ _ _ h
 refine wk 2 λh=>?_
 refine aj<|Qn O<|sZ h λr1 h=>?_
 refine wk 2 λh=>?_
 refine T8 h O O (λB1 h=>?_) (λB1 h=>?_);·exact wk 9999 trivial
 exact wk 9999 trivial
theorem oR{Q:Int->Prop}(h:gX a Q)(L:∀r1,Q r1->R (iZ r1) S) :Ctr prog 23 [dw a] S R:=by
 refine ar func23 rfl ntmps23 results23 Ql (λW H=>?_);refine wk 8 λg1 h=>?_;refine aj<|Qn O<|eh h λr r1 r2 h=>?_
 refine wk 17 λh=>?_
 refine cZ h O (λB h=>?_) (λB h=>?_);·exact dj<|RJ (iZ 0) O<|eT<|Qv H<|L _ h
 refine wk 5 λh=>?_
 refine cZ h O (λB1 h=>?_) (λB1 h=>?_)
 ·refine wk 4 λh=>?_
  exact uZ<|Qv H<|L _ h
 refine wk 5 λh=>?_
 exact uZ<|Qv H<|L _ h
variable{b:QB}
theorem uT{Q:QB->Option Int->Prop}(h:iA a b Q)(L:∀r1 r2,Q r1 r2->R (.tuple [dw r1,bd 36 r2]) S) :Ctr prog 24 [dw a,dw b] S R:=by
 refine ar func24 rfl ntmps24 results24 Ql (λW H=>?_);refine wk 10 λg1 g2 g3 h=>?_;refine aj<|Qn O<|eh h λr r1 r2 h=>?_
 refine wk 11 λh=>?_
 refine aj<|Qn O<|eh h λr3 r4 r5 h=>?_
 refine wk 15 λh=>?_
 refine cZ h O (λB h=>?_) (λB h=>?_)
 ·refine dj<|aj<|cx Mx ET Jf HH pB (ps:=[]) O O (v:=.agg [.bool false,.nil,.nil]) O ?_;refine wk 4 λh=>?_
  exact uZ<|bn (aZ 4 O) pB dZ z_ O O (v:=.agg [.bool false,.nil,.nil]) O<|ah (v:=.iface 36 (iZ 8)) O<|am<|ak H (VW.QF<|QJ (VW.Sb<|vZ<|QJ (VW.QC)<|QJ (VW.QC)<|vn)<|vZ<|vn)<|L _ _ h
 refine wk 8 λh=>?_
 refine aj<|Qn O<|g_ h λr6 h=>?_
 refine wk 2 λh=>?_
 refine aj<|Qn O<|g_ h λr7 h=>aj<|Qn O<|eO h λr8 h=>?_
 refine wk 3 λh=>?_
 exact uZ<|bn (aZ 4 O) pB dZ z_ O O (v:=dw r8) O<|ah (v:=.Qg) O<|am<|ak H RE<|L _ _ h
theorem pF(h:fD a b Q)(L:∀r1,Q r1->R (dw r1) S) :Ctr prog 25 [dw a,dw b] S R:=by
 refine ar func25 rfl ntmps25 results25 Ql (λW H=>?_);refine wk 9 λg1 g2 g3 h=>?_;refine aj<|Qn O<|eh h λr r1 r2 h=>?_
 refine wk 11 λh=>?_
 refine aj<|Qn O<|eh h λr3 r4 r5 h=>?_
 refine wk 12 λh=>?_
 refine aj<|Qn O<|g_ h λp h=>?_
 refine wk 2 λh=>?_
 refine aj<|Qn O<|g_ h λq h=>?_
 refine wk 7 λh=>?_
 refine aj<|Qn O<|g_ h λden h=>?_
 refine wk 9 λh=>?_
 refine cZ h O (λB h=>?_) (λB h=>?_)
 ·refine wk 5 λh=>?_
  refine aj<|Qn O<|wH h λr6 h=>Uk (bE den) O<|aj<|Qn O<|eO h λr7 h=>?_
  refine wk 2 λh=>?_
  exact uZ<|bn (aZ 4 O) pB dZ z_ O O (v:=dw r7) O<|am<|Tl H<|L _ h
 refine wk 6 λh=>?_
 refine aj<|Qn O<|jx h λr8 h=>aj<|Iu O O<|nZ<|cZ h O (λB1 h=>?_) (λB1 h=>?_)
 ·refine wk 4 λh=>?_
  refine aj<|Qn O<|qH h λr9 SP h=>?_
  refine wk 11 λh=>?_
  refine aj<|Qn O<|eO h λXf h=>?_
  refine wk 2 λh=>?_
  exact uZ<|bn (aZ 4 O) pB dZ z_ O O (v:=dw Xf) O<|am<|Tl H<|L _ h
 refine wk 5 λh=>?_
 refine aj<|Qn O<|qH h λXH Yy h=>?_
 refine wk 11 λh=>?_
 refine aj<|Qn O<|eO h λXe h=>?_
 refine wk 2 λh=>?_
 exact uZ<|bn (aZ 4 O) pB dZ z_ O O (v:=dw Xe) O<|am<|Tl H<|L _ h
theorem uS(h:nV a Q)(L:∀r1,Q r1->R (dw r1) S) :Ctr prog 106 [dw a] S R:=by
 refine ar func106 rfl ntmps106 results106 Ql (λW H=>?_);refine wk 8 λg1 g2 h=>?_;refine aj<|Qn O<|eh h λr r1 r2 h=>?_
 refine wk 14 λh=>?_
 refine aj<|Qn O<|eO h λr3 h=>?_
 refine wk 2 λh=>?_
 exact uZ<|bn (aZ 2 O) pB dZ z_ O O (v:=dw r3) O<|am<|Tl H<|L _ h
theorem uR(h:nU a b Q)(L:∀r1,Q r1->R (dw r1) S) :Ctr prog 59 [dw a,dw b] S R:=by
 refine ar func59 rfl ntmps59 results59 Ql (λW H=>?_);refine wk 7 λg1 g2 g3 h=>?_;obtain⟨r,C,h⟩:=h;obtain⟨r1,C1,h⟩:=h;refine Vc.Qf mixed W (gO [(2,pc (dw r)),(3,pc (dw r1))]) Ql ?_;refine wk 2 λh=>?_
 refine dC (vs:=[dw b]) O (vZ<|vn) (λ_=>uS C (λ_ hr=>⟨by rw[hr],rfl⟩)) O<|dC (vs:=[dw a,dw r]) O (vZ<|vZ<|vn) (λ_=>pF C1 (λ_ hr=>⟨by rw[hr],rfl⟩)) O ?_;refine wk 2 λh=>?_
 exact uZ<|bn (aZ 4 O) pB dZ z_ O O (v:=dw r1) O<|am<|Tl H<|L _ h
theorem uU{Q:Int->Prop}(h:iB a b Q)(L:∀r1,Q r1->R (iZ r1) S) :Ctr prog 29 [dw a,dw b] S R:=by refine ar func29 rfl ntmps29 results29 Ql (λW H=>?_);refine wk 10 λg1 g2 h=>?_;exact aj<|Qn O<|uR h λr h=>aj<|Qn O<|oR h λr1 h=>RJ (iZ r1) O<|eT<|Qv H<|L _ h
theorem mD{err:Option Int}{code:Int}{Q:Bool->Prop}(h:cS err code Q)(L:∀r1,Q r1->R (AV.bool r1) S) :Ctr prog 12 [bd 36 err,iZ code] S R:=by
 refine ar func12 rfl ntmps12 results12 Ql (λW H=>?_);refine wk 7 λh=>?_
 refine aj<|Gw Pj Pv NQ O ?_;refine wk 10 λh=>?_
 refine Te h O O (λB h=>?_) (λB h=>?_)
 ·refine wk 8 λh=>?_
  exact uZ<|Qv H<|L _ h
 refine wk 5 λh=>?_
 exact uZ<|Qv H<|L _ h
end Go.Proofs.YtbnjpdocceckeaaGreat
namespace Go.Proofs.YtbnjpdocceckeaaGreat
open Go.Gg Tryz
set_option maxRecDepth 100000
set_option maxHeartbeats 2000000
variable{S:St}{R:AV->St->Prop}
theorem qR{kind n:Int}{Q:Bool->Prop}(h:jb kind n Q)(L:∀r1,Q r1->R (AV.bool r1) S):Ctr prog 96 [iZ kind,iZ n] S R:=by
 refine ar func96 rfl ntmps96 results96 Ql (λW H=>?_);refine wk 15 λh=>?_
 refine cZ h O (λB h=>?_) (λB h=>?_)
 ·refine wk 6 λh=>?_
  exact uZ<|Qv H<|L _ h
 refine wk 5 λh=>?_
 refine cZ h O (λB1 h=>?_) (λB1 h=>?_)
 ·refine wk 6 λh=>?_
  exact uZ<|Qv H<|L _ h
 refine wk 6 λh=>?_
 refine Te h O O (λB2 h=>?_) (λB2 h=>?_)
 ·refine wk 6 λh=>?_
  exact uZ<|Qv H<|L _ h
 refine wk 4 λh=>?_
 exact uZ<|Qv H<|L _ h
variable{f:GFormula}{Q:Option Int->Prop}{i:Int}
theorem qQ(h:ja f i Q)(L:∀r1,Q r1->R (bd 36 r1) S) :Ctr prog 47 [aD f,iZ i] S R:=by
 refine ar func47 rfl ntmps47 results47 Ql (λW H=>?_);refine wk 16 λg1 g2 h G h=>?_;refine Ud (γ:=Nat×Nat) h (λy=>aC [(1,iZ i),(2,.ptr W 2 y.2.1 0 0),(5,.ptr W 5 y.2.2 0 0),(20,.bool y.1)]) (λy=>Qr S W [(2,.arr 3 [aD f],y.2.1),(5,.arr 3 [bT (P9 f.N i)],y.2.2)]) (λy h=>?_) (λ_ h=>?_)
 ·obtain⟨x,⟨g3,g4⟩⟩:=y;refine cZ h O (λB h=>?_) (λB h=>?_)
  ·refine wk 5 λh=>?_
   exact uZ<|Qv H<|L _ h
  refine wk 9 λh=>?_
  refine aj<|Qn O<|qR h λr h=>aj<|qG O<|nZ<|cZ h O (λB1 h=>?_) (λB1 h=>?_)
  ·refine wk 5 λh=>?_
   exact uZ<|Qv H<|L _ h
  refine wk 10 λh=>?_
  refine SB h (g3,g4) (λy=>aC [(1,iZ i),(2,.ptr W 2 y.2.1 0 0),(5,.ptr W 5 y.2.2 0 0),(31,aF ((P9 f.N i).Z)),(32,iZ (((P9 f.N i).Z).length:Int)),(33,iZ y.1)]) (λy=>Qr S W [(2,.arr 3 [aD f],y.2.1),(5,.arr 3 [bT (P9 f.N i)],y.2.2)]) Rj (λy _ h=>?_);obtain⟨x1,⟨g5,g6⟩⟩:=y;refine wk 5 λh=>?_
  refine cZ h O (λB2 h=>?_) (λB2 h=>?_)
  ·refine wk 9 λh G1 h=>?_;refine Ud (γ:=Nat×Nat) h (λy=>aC [(1,iZ i),(2,.ptr W 2 y.2.1 0 0),(5,.ptr W 5 y.2.2 0 0),(31,aF ((P9 f.N i).Z)),(32,iZ (((P9 f.N i).Z).length:Int)),(33,iZ x1),(46,.bool y.1)]) (λy=>Qr S W [(2,.arr 3 [aD f],y.2.1),(5,.arr 3 [bT (P9 f.N i)],y.2.2)]) (λy h=>?_) (λ_ h=>?_)
   ·obtain⟨x2,⟨g7,g8⟩⟩:=y;refine cZ h O (λB3 h=>?_) (λB3 h=>?_)
    ·refine wk 5 λh=>?_
     exact uZ<|Qv H<|L _ h
    exact wk 9999 trivial
   exact wk 9999 trivial
  refine wk 13 λh=>?_
  refine cZ h O (λB5 h=>?_) (λB5 h=>?_)
  ·refine Uz h (λy=>aC [(64,.bool y)]) (λy=>Qr S W []) (λx3 h=>?_) (λ_ h=>?_)
   ·refine cZ h O (λB6 h=>?_) (λB6 h=>?_)
    ·refine wk 5 λh=>?_
     exact uZ<|Qv H<|L _ h
    refine wk 5 λh=>?_
    exact uZ<|Qv H<|L _ h
   exact wk 9999 trivial
  refine wk 5 λh=>?_
  refine cZ h O (λB8 h=>?_) (λB8 h=>?_)
  ·refine Uz h (λy=>aC [(78,.bool y)]) (λy=>Qr S W []) (λx4 h=>?_) (λ_ h=>?_)
   ·refine cZ h O (λB9 h=>?_) (λB9 h=>?_)
    ·refine wk 5 λh=>?_
     exact uZ<|Qv H<|L _ h
    refine wk 5 λh=>?_
    exact uZ<|Qv H<|L _ h
   exact wk 9999 trivial
  refine wk 6 λh=>?_
  refine cZ h O (λB11 h=>?_) (λB11 h=>?_)
  ·refine wk 5 λh=>?_
   exact uZ<|Qv H<|L _ h
  refine wk 5 λh=>?_
  exact uZ<|Qv H<|L _ h
 exact wk 9999 trivial
variable{arg:Int}
theorem uh{Q:Bool->Prop}(h:mS f arg Q)(L:∀r1,Q r1->R (AV.bool r1) S) :Ctr prog 48 [aD f,iZ arg] S R:=by
 refine ar func48 rfl ntmps48 results48 Ql (λW H=>?_);refine wk 11 λg1 h=>?_;refine Te h O O (λB h=>?_) (λB h=>?_)
 ·refine wk 5 λh=>?_
  refine Te h O O (λB1 h=>?_) (λB1 h=>?_)
  ·refine wk 9 λh=>?_
   refine T8 h O O (λB2 h=>?_) (λB2 h=>?_);·refine wk 20 λh G h=>?_;exact uZ<|Qv H<|L _ h
   refine wk 12 λh=>?_
   exact uZ<|Qv H<|L _ h
  refine wk 16 λh=>?_
  exact uZ<|Qv H<|L _ h
 refine wk 20 λh=>?_
 exact uZ<|Qv H<|L _ h
theorem eP(h:dT f Q)(L:∀r1,Q r1->R (bd 36 r1) S) :Ctr prog 20 [aD f] S R:=by
 refine ar func20 rfl ntmps20 results20 Ql (λW H=>?_);refine wk 6 λg1 h=>?_;refine Ud (γ:=Nat) h (λy=>aC [(1,.ptr W 1 y.2 0 0),(12,.bool y.1)]) (λy=>Qr S W [(1,.arr 3 [aD f],y.2)]) (λy h=>?_) (λ_ h=>?_)
 ·obtain⟨x,g2⟩:=y;refine cZ h O (λB h=>?_) (λB h=>?_)
  ·refine wk 5 λh=>?_
   exact uZ<|Qv H<|L _ h
  refine wk 9 λh=>?_
  refine cZ h O (λB1 h=>?_) (λB1 h=>?_)
  ·refine wk 5 λh=>?_
   exact uZ<|Qv H<|L _ h
  refine wk 10 λh=>?_
  refine Rf h (λy=>aC [(1,.ptr W 1 g2 0 0),(21,iZ (f.N.length:Int)),(22,iZ y)]) (λy=>Qr S W [(1,.arr 3 [aD f],g2)]) Rj (λx1 _ h=>?_);refine wk 5 λh=>?_
  refine cZ h O (λB2 h=>?_) (λB2 h=>?_)
  ·refine wk 12 λh=>?_
   refine aj<|Qn O<|qQ h λe h=>?_
   refine wk 7 λh=>?_
   refine cZ h O (λB3 h=>?_) (λB3 h=>?_)
   ·refine wk 5 λh=>?_
    exact uZ<|Qv H<|L _ h
   exact wk 9999 trivial
  refine wk 7 λh=>?_
  refine aj<|Qn O<|uh h λr h=>aj<|qG O<|nZ<|cZ h O (λB4 h=>?_) (λB4 h=>?_)
  ·refine wk 5 λh=>?_
   exact uZ<|Qv H<|L _ h
  refine wk 5 λh=>?_
  exact uZ<|Qv H<|L _ h
 exact wk 9999 trivial
theorem kA{Q:List Bool->Prop}(h:ia f Q)(L:∀r1,Q r1->R (eL AV.bool r1) S) :Ctr prog 83 [aD f] S R:=by
 refine ar func83 rfl ntmps83 results83 Ql (λW H=>?_);refine wk 13 λg1 h G h=>?_;refine Qp h (λG1 h=>wZ W<|fk oP Dq Ww (enc:=AV.bool) (z':=false) tA (kk:=1) O O O G1 (λg2=>?_))
 refine wk 20 λh J h G2 h=>?_;refine Rf h (λy=>aC [(1,.ptr W 1 g1 0 0),(3,.sl 1 W 13 g2 0 y.2.length),(4,iZ y.1)]) (λy=>Qr S W [(1,.arr 3 [aD f],g1),(13,.arr 1 (List.map AV.bool y.2),g2)]) (canon (fZ<|fc (VW.QO QK)<|fZ<|fn)<|sc O<|sc O<|sn) (λy _ h=>?_);obtain⟨i,mark⟩:=y;refine wk 6 λh=>?_
 refine cZ h O (λB h=>?_) (λB h=>?_)
 ·refine wk 13 λh G3 h J1 h=>?_;refine cZ h O (λB1 h=>?_) (λB1 h=>?_)
  ·refine wk 12 λh G4 h=>?_;refine Rf h (λy=>aC [(1,.ptr W 1 g1 0 0),(3,.sl 1 W 13 g2 0 y.2.length),(4,iZ i),(38,aF ((P9 f.N i).Z)),(39,iZ (((P9 f.N i).Z).length:Int)),(40,iZ y.1)]) (λy=>Qr S W [(1,.arr 3 [aD f],g1),(13,.arr 1 (List.map AV.bool y.2),g2)]) Rj (λy _ h=>?_);obtain⟨x,Wz⟩:=y;refine wk 5 λh=>?_
   refine cZ h O (λB2 h=>?_) (λB2 h=>?_);·exact wk 9999 trivial
   exact wk 9999 trivial
  exact wk 9999 trivial
 refine wk 6 λh=>?_
 exact uZ<|ah (v:=.sl 1 W 13 g2 0 mark.length) O<|am<|aX (k:=13) (xs:=List.map AV.bool mark) O (v':=eL AV.bool mark) (aR O)<|Tl H<|L _ h
theorem lH{Q:GFormula->Option Int->Prop}(h:gD f Q)(L:∀r1 r2,Q r1 r2->R (.tuple [aD r1,bd 36 r2]) S) :Ctr prog 37 [aD f] S R:=by
 refine ar func37 rfl ntmps37 results37 Ql (λW H=>?_);refine wk 10 λg1 g2 h=>?_;refine aj<|Qn O<|eP h λe h=>?_
 refine wk 7 λh=>?_
 refine cZ h O (λB h=>?_) (λB h=>?_)
 ·refine dj<|aj<|cx My Hk Jg HI DU (ps:=[]) O O (v:=.agg [iZ 0,.nil,iZ 0]) O ?_;refine wk 4 λh=>?_
  exact uZ<|bn (aZ 2 O) DU dZ Le O O (v:=.agg [iZ 0,.nil,iZ 0]) O<|ah (v:=bd 36 e) O<|am<|ak H (VW.QF<|QJ (VW.Sb<|vZ<|QJ (VW.QC)<|vZ<|vn)<|vZ<|vn)<|L _ _ h
 refine wk 5 λh=>?_
 refine aj<|cx My Hk Jg HI DU (ps:=[(0,iZ f.Y)]) O O (v:=.agg [iZ f.Y,.nil,iZ 0]) O ?_;refine wk 11 λg3 h G h=>?_
 refine Qp h (λG1 h=>wZ W<|fk bW nC Rz (enc:=iZ) (z':=0) dg (kk:=1) O O O G1 (λg4=>?_))
 refine wk 10 λh=>?_
 refine Rf h (λy=>aC [(1,.ptr W 1 g1 0 0),(2,.ptr W 2 g2 0 0),(5,.ptr W 5 g3 0 0),(6,.sl 1 W 29 g4 0 y.2.length),(31,iZ f.Y),(32,iZ y.1)]) (λy=>Qr S W [(1,.arr 3 [aD f],g1),(2,.arr 3 [.agg [iZ 0,.nil,iZ 0]],g2),(5,.arr 3 [.agg [iZ f.Y,.nil,iZ 0]],g3),(29,.arr 1 (List.map iZ y.2),g4)]) (canon (fZ<|fZ<|fZ<|fc (VW.QO QK)<|fZ<|fZ<|fn)<|mK O O O O<|sn) (λy _ h=>?_);obtain⟨x,to⟩:=y;refine wk 5 λh=>?_
 refine cZ h O (λB1 h=>?_) (λB1 h=>?_);·exact wk 9999 trivial
 refine VB<|qZ<|qZ ?_;obtain⟨r,C,h⟩:=h;refine Qp h (λG3 h=>Vc.Qf mixed W (gO [(1,pc (eL AV.bool r))]) Ql ?_);refine wk 1 λh=>?_
 refine dC (vs:=[aD f]) O (vZ<|vn) (λ_=>kA C (λ_ hr=>⟨by rw[hr],rfl⟩)) O ?_;refine wk 2 λh=>?_
 refine dP O O<|n_ oP sz4 dZ (λ_=>O) O (l:=f.Y) (h:=(r.length:Int)) O O G3 ?_;refine wk 4 λh=>?_
 refine Vc.TQ 5 1 96 3 (b:=λg5=>.agg [iZ f.Y,.sl 3 W 96 g5 0 0,iZ 0]) O O dZ dZ O (λg5=>SB h g5 (λy=>aC [(1,.ptr W 1 g1 0 0),(2,.ptr W 2 g2 0 0),(5,.ptr W 5 g3 0 0),(6,.sl 1 W 29 g4 0 y.1.2.1.length),(44,eL AV.bool (fV r f.Y (r.length:Int))),(45,iZ ((fV r f.Y (r.length:Int)).length:Int)),(46,iZ y.1.1)]) (λy=>Qr S W [(1,.arr 3 [aD f],g1),(2,.arr 3 [.agg [iZ 0,.nil,iZ 0]],g2),(5,.arr 3 [.agg [iZ f.Y,.sl 3 W 96 y.2 0 y.1.2.2.length,iZ 0]],g3),(29,.arr 1 (List.map iZ y.1.2.1),g4),(96,.arr 3 (List.map bT y.1.2.2),y.2)]) (Rm.trans (Rm.ow (k:=5) (o':=.arr 3 [.agg [iZ f.Y,.sl 3 W 96 g5 0 ([].length),iZ 0]]) O<|OW.one<|SG.US<|vZ<|QJ (VW.QO QK)<|vZ<|vn)<|canon (kD<|fZ<|fZ<|fZ<|fn)<|mK O O O O<|sc O<|sn) (λy _ h=>?_));obtain⟨⟨x1,Vv,x2⟩,g6⟩:=y;refine wk 5 λh=>?_
 refine cZ h O (λB2 h=>?_) (λB2 h=>?_)
 ·refine wk 17 λh G4 h=>?_;refine cZ h O (λB3 h=>?_) (λB3 h=>?_);·exact wk 9999 trivial
  refine wk 17 λg7 h G6 h=>?_;refine aj<|cx NW Cm L_ LF HL (ps:=[(0,iZ ((P9 f.N x1).U)),(1,iZ ((P9 f.N x1).K))]) O O (v:=.agg [iZ ((P9 f.N x1).U),iZ ((P9 f.N x1).K),.nil]) O ?_
  refine wk 12 λg8 h=>?_;refine Vc.TQ 11 2 77 1 (b:=λg9=>.agg [iZ ((P9 f.N x1).U),iZ ((P9 f.N x1).K),.sl 1 W 77 g9 0 0]) O O dZ dZ O (λg9=>SB h g9 (λy=>aC [(1,.ptr W 1 g1 0 0),(2,.ptr W 2 g2 0 0),(5,.ptr W 5 g3 0 0),(6,.sl 1 W 29 g4 0 Vv.length),(8,iZ x1),(11,.ptr W 11 g8 0 0),(44,eL AV.bool (fV r f.Y (r.length:Int))),(45,iZ ((fV r f.Y (r.length:Int)).length:Int)),(46,iZ x1),(64,aF ((P9 f.N x1).Z)),(65,iZ (((P9 f.N x1).Z).length:Int)),(66,iZ y.1.1)]) (λy=>Qr S W [(1,.arr 3 [aD f],g1),(2,.arr 3 [.agg [iZ 0,.nil,iZ 0]],g2),(5,.arr 3 [.agg [iZ f.Y,.sl 3 W 96 g6 0 x2.length,iZ 0]],g3),(11,.arr 3 [.agg [iZ ((P9 f.N x1).U),iZ ((P9 f.N x1).K),.sl 1 W 77 y.2 0 y.1.2.length]],g8),(29,.arr 1 (List.map iZ Vv),g4),(77,.arr 1 (List.map iZ y.1.2),y.2),(96,.arr 3 (List.map bT x2),g6)]) (Rm.trans (Rm.ow (k:=11) (o':=.arr 3 [.agg [iZ ((P9 f.N x1).U),iZ ((P9 f.N x1).K),.sl 1 W 77 g9 0 ([].length)]]) O (OW.one<|SG.US<|vZ<|vZ<|QJ (VW.QO QK)<|vn)) (canon (kD<|kD<|kD<|fn)<|mK O O O O<|sc O<|sc O<|sc O<|sn)) (λy _ h=>?_));obtain⟨⟨x3,x4⟩,g10⟩:=y;refine wk 5 λh=>?_
  refine cZ h O (λB4 h=>?_) (λB4 h=>?_)
  ·refine wk 9 λh G7 h=>?_;refine Qp h (λJ1 h=>Qp h (λG8 h=>Vc.Qf mixed W (λ_=>eo) Ql ?_));refine wk 4 λh=>?_
   refine dP O O<|aV bW Se dZ O O J1 ?_;refine wk 1 λh=>?_
   refine dL (E:=([],[(W,76)])) O O Qy (SL Ql<|Q0 RD QZ) (aT bW Rz dg (es:=[iZ (P9 Vv<|P9 ((P9 f.N x1).Z) x3)]) O (kk:=1) O O O O O O (λg11=>dL (E:=([(W,76)],[(W,77)])) O O Qy QZ (dD bW nC Rz dg (es:=x4) (xs:=[(P9 Vv<|P9 ((P9 f.N x1).Z) x3)]) (enc:=iZ) (aZ 77 O) QK (bS (aZ 76 O) QK) (kk:=1) O O (λ_=>O) (λ_=>O) G8 O (λ_=>bm) (λg12=>?_))))
   exact wk 9999 trivial
  refine wk 20 λh G10 h G11 h J2 h=>?_;refine aj<|br (aZ 11 O) HL dZ O' O O (v:=.agg [iZ ((P9 f.N x1).U),iZ ((P9 f.N x1).K),.sl 1 W 77 g10 0 x4.length]) O (fh (aU (k:=77) (xs:=List.map iZ x4) O (es:=[(1,.ptr W 1 g1 0 0),(2,.ptr W 2 g2 0 0),(5,.ptr W 5 g3 0 0),(6,.sl 1 W 29 g4 0 Vv.length),(44,eL AV.bool (fV r f.Y (r.length:Int))),(45,iZ ((fV r f.Y (r.length:Int)).length:Int)),(46,iZ x1),(93,.sl 3 W 96 g6 0 x2.length),(94,.agg [iZ ((P9 f.N x1).U),iZ ((P9 f.N x1).K),aF x4])]) (fZ<|fZ<|fZ<|fc (kz O)<|fZ<|fZ<|fZ<|fc (kz O)<|fc (VW.Sb<|vZ<|vZ<|QJ (aR O)<|vn)<|fn) (m:=[(1,.arr 3 [aD f],g1),(2,.arr 3 [.agg [iZ 0,.nil,iZ 0]],g2),(5,.arr 3 [.agg [iZ f.Y,.sl 3 W 96 g6 0 x2.length,iZ 0]],g3),(29,.arr 1 (List.map iZ<|Qt Vv (f.Y+x1)<|f.Y+(x2.length:Int)),g4),(96,.arr 3 (List.map bT x2),g6)]) (mK O O O O<|sc O<|sn)) (wZ W<|aT HD MT Cm (es:=[.agg [iZ ((P9 f.N x1).U),iZ ((P9 f.N x1).K),aF x4]]) O (kk:=3) O O O O O O (λg14=>Qp h (λG12 h=>wZ W<|dD HD O4 MT Cm (es:=x2) (xs:=[(⟨(P9 f.N x1).U,(P9 f.N x1).K,x4⟩:QN)]) (enc:=bT) (aZ 96 O) QK (bS (aZ 95 O) QK) (kk:=3) O O (λ_=>O) (λ_=>O) G12 O (λ_=>bm) (λg15=>?_)))))
  exact wk 9999 trivial
 refine wk 13 λh J3 h=>?_;refine aj<|br (aZ 5 O) DU dZ Le O O (v:=.agg [iZ f.Y,.sl 3 W 96 g6 0 x2.length,iZ (P9 Vv f.A)]) O ?_
 refine wk 3 λh=>?_
 exact uZ<|bn (aZ 2 O) DU dZ Le O O (v:=.agg [iZ f.Y,.sl 3 W 96 g6 0 x2.length,iZ (P9 Vv f.A)]) O<|ah (v:=.Qg) O<|am<|aX (k:=96) (xs:=List.map bT x2) O (v':=.tuple [.agg [iZ f.Y,eL bT x2,iZ (P9 Vv f.A)],.Qg]) (VW.QF<|QJ (VW.Sb<|vZ<|QJ (aR O)<|vZ<|vn)<|vZ<|vn)<|ak H RE<|L _ _ h
theorem xU{Q:Int->Prop}(h:qh f i Q)(L:∀r1,Q r1->R (iZ r1) S) :Ctr prog 45 [aD f,iZ i] S R:=by
 refine ar func45 rfl ntmps45 results45 Ql (λW H=>?_);refine wk 20 λg1 g2 h G h=>?_;refine Ud (γ:=Nat×Nat) h (λy=>aC [(1,iZ i),(2,.ptr W 2 y.2.1 0 0),(5,.ptr W 5 y.2.2 0 0),(6,iZ y.1.1),(7,iZ y.1.2)]) (λy=>Qr S W [(2,.arr 3 [aD f],y.2.1),(5,.arr 3 [bT (P9 f.N i)],y.2.2)]) (λy h=>?_) (λ_ h=>?_)
 ·obtain⟨⟨least,most⟩,⟨g3,g4⟩⟩:=y;refine wk 9 λh=>?_
  refine T8 h O O (λB h=>?_) (λB h=>?_)
  ·refine wk 11 λh=>?_
   refine cZ h O (λB1 h=>?_) (λB1 h=>?_);·exact dj<|RJ (iZ 11) O<|eT<|Qv H<|L _ h
   refine wk 10 λh=>?_
   refine Rf h (λy=>aC [(1,iZ i),(2,.ptr W 2 g3 0 0),(5,.ptr W 5 g4 0 0),(39,aF ((P9 f.N i).Z)),(40,iZ (((P9 f.N i).Z).length:Int)),(41,iZ y)]) (λy=>Qr S W [(2,.arr 3 [aD f],g3),(5,.arr 3 [bT (P9 f.N i)],g4)]) Rj (λx _ h=>?_);refine wk 5 λh=>?_
   refine cZ h O (λB2 h=>?_) (λB2 h=>?_)
   ·refine wk 14 λh G1 h=>?_;refine T8 h O O (λB3 h=>?_) (λB3 h=>?_)
    ·refine wk 13 λh G2 h=>?_;refine cZ h O (λB4 h=>?_) (λB4 h=>?_);·exact dj<|RJ (iZ 10) O<|eT<|Qv H<|L _ h
     exact wk 9999 trivial
    refine wk 7 λh=>?_
    exact U_ O O<|dj<|RJ (iZ 10) O<|eT<|Qv H<|L _ h
   refine wk 13 λh=>?_
   refine cZ h O (λB5 h=>?_) (λB5 h=>?_)
   ·refine wk 6 λh=>?_
    refine Te h O O (λB6 h=>?_) (λB6 h=>?_)
    ·refine wk 7 λh=>?_
     refine cZ h O (λB7 h=>?_) (λB7 h=>?_);·exact dj<|RJ (iZ 3) O<|eT<|Qv H<|L _ h
     refine wk 5 λh=>?_
     exact uZ<|Qv H<|L _ h
    refine wk 4 λh=>?_
    refine Yo O O ?_;refine wk 5 λh=>?_
    exact uZ<|Qv H<|L _ h
   refine wk 5 λh=>?_
   refine cZ h O (λB8 h=>?_) (λB8 h=>?_)
   ·refine wk 6 λh=>?_
    refine T8 h O O (λB9 h=>?_) (λB9 h=>?_)
    ·refine wk 13 λh=>?_
     refine cZ h O (λB10 h=>?_) (λB10 h=>?_);·exact dj<|RJ (iZ 3) O<|eT<|Qv H<|L _ h
     refine wk 5 λh=>?_
     exact uZ<|Qv H<|L _ h
    refine wk 7 λh=>?_
    exact U_ O O<|dj<|RJ (iZ 3) O<|eT<|Qv H<|L _ h
   refine wk 6 λh=>?_
   refine cZ h O (λB11 h=>?_) (λB11 h=>?_);·exact dj<|RJ (iZ 2) O<|eT<|Qv H<|L _ h
   refine wk 5 λh=>?_
   exact uZ<|Qv H<|L _ h
  refine wk 6 λh=>?_
  exact U_ O O<|dj<|RJ (iZ 11) O<|eT<|Qv H<|L _ h
 refine wk 11 λh=>?_
 refine cZ h O (λB12 h=>?_) (λB12 h=>?_);·exact wk 9999 trivial
 refine wk 5 λh=>?_
 refine cZ h O (λB13 h=>?_) (λB13 h=>?_);·exact wk 9999 trivial
 refine wk 6 λh=>?_
 refine cZ h O (λYP h=>?_) (λYP h=>?_);·refine kZ<|U_ O YP ?_;exact wk 9999 trivial
 refine wk 5 λh=>?_
 refine cZ h O (λB15 h=>?_) (λB15 h=>?_);·refine kZ<|U_ O B15 ?_;exact wk 9999 trivial
 refine wk 5 λh=>?_
 refine cZ h O (λB16 h=>?_) (λB16 h=>?_);·refine kZ<|U_ O B16 ?_;exact wk 9999 trivial
 refine wk 4 λh=>?_
 refine cZ h O (λB17 h=>?_) (λB17 h=>?_);·exact wk 9999 trivial
 exact dj<|RJ (iZ 7) O<|eT<|Qv H<|L _ h
theorem ww{Q:Bool->Prop}(h:pj f arg Q)(L:∀r1,Q r1->R (AV.bool r1) S) :Ctr prog 46 [aD f,iZ arg] S R:=by
 refine ar func46 rfl ntmps46 results46 Ql (λW H=>?_);refine wk 11 λg1 h=>?_;refine Te h O O (λB h=>?_) (λB h=>?_)
 ·refine wk 5 λh=>?_
  refine Te h O O (λB1 h=>?_) (λB1 h=>?_)
  ·refine wk 9 λh=>?_
   refine T8 h O O (λB2 h=>?_) (λB2 h=>?_);·refine wk 20 λh G h=>?_;exact uZ<|Qv H<|L _ h
   refine wk 12 λh=>?_
   exact uZ<|Qv H<|L _ h
  refine wk 16 λh=>?_
  exact uZ<|Qv H<|L _ h
 refine wk 20 λh=>?_
 exact uZ<|Qv H<|L _ h
theorem wz{Q:Int->Prop}(h:pk f Q)(L:∀r1,Q r1->R (iZ r1) S) :Ctr prog 19 [aD f] S R:=by
 refine ar func19 rfl ntmps19 results19 Ql (λW H=>?_);refine wk 12 λg1 h=>?_;refine T8 h O O (λB h=>?_) (λB h=>?_)
 ·refine wk 7 λh=>?_
  refine cZ h O (λB1 h=>?_) (λB1 h=>?_);·exact dj<|RJ (iZ 3) O<|eT<|Qv H<|L _ h
  refine wk 9 λh=>?_
  refine cZ h O (λB2 h=>?_) (λB2 h=>?_);·exact dj<|RJ (iZ 4) O<|eT<|Qv H<|L _ h
  refine wk 10 λh=>?_
  refine Rf h (λy=>aC [(1,.ptr W 1 g1 0 0),(19,iZ (f.N.length:Int)),(20,iZ y)]) (λy=>Qr S W [(1,.arr 3 [aD f],g1)]) Rj (λx _ h=>?_);refine wk 5 λh=>?_
  refine cZ h O (λB3 h=>?_) (λB3 h=>?_)
  ·refine wk 12 λh=>?_
   refine aj<|Qn O<|xU h λe h=>?_
   refine wk 7 λh=>?_
   refine cZ h O (λB4 h=>?_) (λB4 h=>?_)
   ·refine wk 5 λh=>?_
    exact uZ<|Qv H<|L _ h
   exact wk 9999 trivial
  refine wk 7 λh=>?_
  refine aj<|Qn O<|ww h λr h=>aj<|qG O<|nZ<|cZ h O (λB5 h=>?_) (λB5 h=>?_)
  ·exact dj<|RJ (iZ 10) O<|eT<|Qv H<|L _ h
  refine wk 5 λh=>?_
  exact uZ<|Qv H<|L _ h
 refine wk 4 λh=>?_
 exact U_ O O<|dj<|RJ (iZ 3) O<|eT<|Qv H<|L _ h
theorem vA{Q:Int->Int->Option Int->Prop}(h:ot f Q)(L:∀r1 r2 r3,Q r1 r2 r3->R (.tuple [iZ r1,iZ r2,bd 36 r3]) S) :Ctr prog 129 [aD f] S R:=by
 refine ar func129 rfl ntmps129 results129 Ql (λW H=>?_);refine wk 11 λg1 h=>?_;refine aj<|Qn O<|eP h λe h=>?_
 refine wk 7 λh=>?_
 refine cZ h O (λB h=>?_) (λB h=>?_)
 ·refine wk 7 λh=>?_
  exact uZ<|ah (v:=iZ 0) O<|ah (v:=iZ 0) O<|ah (v:=bd 36 e) O<|am<|ak H RE<|L _ _ _ h
 refine kZ<|qZ<|qZ ?_;obtain⟨r,C,h⟩:=h;refine Qp h (λG h=>Vc.Qf mixed W (gO [(1,pc (eL AV.bool r))]) Ql ?_);refine wk 1 λh=>?_
 refine dC (vs:=[aD f]) O (vZ<|vn) (λ_=>kA C (λ_ hr=>⟨by rw[hr],rfl⟩)) O ?_;refine wk 2 λh=>?_
 refine dP O O<|n_ oP sz4 dZ (λ_=>O) O (l:=f.Y) (h:=(r.length:Int)) O O G ?_;refine wk 4 λh=>?_
 refine Rf h (λy=>aC [(1,.ptr W 1 g1 0 0),(2,iZ y.1),(3,iZ y.2.1),(17,eL AV.bool (fV r f.Y (r.length:Int))),(18,iZ ((fV r f.Y (r.length:Int)).length:Int)),(19,iZ y.2.2)]) (λy=>Qr S W [(1,.arr 3 [aD f],g1)]) Rj (λy _ h=>?_);obtain⟨nodes,args,x⟩:=y;refine wk 5 λh=>?_
 refine cZ h O (λB1 h=>?_) (λB1 h=>?_)
 ·refine wk 15 λh G1 h=>?_;refine cZ h O (λB2 h=>?_) (λB2 h=>?_);·refine wk 16 λh G2 h G3 h G4 h=>?_;refine TP h (λYp hs h=>wZ W<|bX (v:=iZ Yp) (by subst hs;rfl) ?_);exact wk 9999 trivial
  exact wk 9999 trivial
 refine wk 9 λh=>?_
 exact uZ<|ah (v:=iZ nodes) O<|ah (v:=iZ args) O<|ah (v:=.Qg) O<|am<|ak H RE<|L _ _ _ h
theorem su{Q:Int->Option Int->Prop}(h:kB f Q)(L:∀r1 r2,Q r1 r2->R (.tuple [iZ r1,bd 36 r2]) S) :Ctr prog 90 [aD f] S R:=by
 refine ar func90 rfl ntmps90 results90 Ql (λW H=>?_);refine wk 10 λg1 h=>?_;refine aj<|Qn O<|eP h λe h=>?_
 refine wk 7 λh=>?_
 refine cZ h O (λB h=>?_) (λB h=>?_)
 ·refine wk 6 λh=>?_
  exact uZ<|ah (v:=iZ 0) O<|ah (v:=bd 36 e) O<|am<|ak H RE<|L _ _ h
 refine wk 7 λh=>?_
 obtain⟨r,C,h⟩:=h;refine Qp h (λG h=>Vc.Qf mixed W (gO [(1,pc (eL AV.bool r))]) Ql ?_);refine wk 1 λh=>?_
 refine dC (vs:=[aD f]) O (vZ<|vn) (λ_=>kA C (λ_ hr=>⟨by rw[hr],rfl⟩)) O ?_;refine wk 2 λh=>?_
 refine dP O O<|n_ oP sz4 dZ (λ_=>O) O (l:=0) (h:=f.Y) O O G ?_;refine wk 4 λh=>?_
 refine Rf h (λy=>aC [(5,iZ y.1),(17,eL AV.bool (fV r 0 f.Y)),(18,iZ ((fV r 0 f.Y).length:Int)),(19,iZ y.2)]) (λy=>Qr S W []) Rj (λy _ h=>?_);obtain⟨out,x⟩:=y;refine wk 5 λh=>?_
 refine cZ h O (λB1 h=>?_) (λB1 h=>?_)
 ·refine wk 15 λh G1 h=>?_;refine cZ h O (λB2 h=>?_) (λB2 h=>?_)
  ·refine wk 3 λh=>?_
   refine Qp h (λG2 h=>aj<|lz O O G2 ?_);exact wk 9999 trivial
  exact wk 9999 trivial
 refine wk 7 λh=>?_
 exact uZ<|ah (v:=iZ out) O<|ah (v:=.Qg) O<|am<|ak H RE<|L _ _ h
variable{failed:Int}
theorem uf(h:mQ f failed Q)(L:∀r1,Q r1->R (bd 36 r1) S) :Ctr prog 153 [aD f,iZ failed] S R:=by
 refine ar func153 rfl ntmps153 results153 Ql (λW H=>?_);refine wk 9 λg1 h=>?_;refine aj<|Qn O<|eP h λe h=>?_
 refine wk 7 λh=>?_
 refine cZ h O (λB h=>?_) (λB h=>?_)
 ·refine wk 5 λh=>?_
  exact uZ<|Qv H<|L _ h
 refine kZ<|qZ<|Uz h (λy=>aC [(19,.bool y)]) (λy=>Qr S W []) (λx h=>?_) (λ_ h=>?_)
 ·refine cZ h O (λB1 h=>?_) (λB1 h=>?_)
  ·refine wk 5 λh=>?_
   exact uZ<|Qv H<|L _ h
  refine wk 5 λh=>?_
  exact uZ<|Qv H<|L _ h
 refine wk 4 λh=>?_
 refine T8 h O O (λB2 h=>?_) (λB2 h=>?_)
 ·refine wk 6 λh=>?_
  refine Qp h (λG h=>aj<|lz O O G ?_);exact wk 9999 trivial
 exact wk 9999 trivial
theorem te{Q:List Bool->Prop}(h:lG f failed Q)(L:∀r1,Q r1->R (eL AV.bool r1) S) :Ctr prog 154 [aD f,iZ failed] S R:=by
 refine ar func154 rfl ntmps154 results154 Ql (λW H=>?_);refine wk 15 λg1 h G h=>?_;refine Qp h (λG1 h=>wZ W<|fk oP Dq Ww (enc:=AV.bool) (z':=false) tA (kk:=1) O O O G1 (λg2=>?_))
 refine wk 10 λh=>?_
 refine Rf h (λy=>aC [(1,iZ failed),(2,.ptr W 2 g1 0 0),(5,.sl 1 W 21 g2 0 y.2.length),(23,iZ ((Int.toNat f.Y):Int)),(24,iZ y.1)]) (λy=>Qr S W [(2,.arr 3 [aD f],g1),(21,.arr 1 (List.map AV.bool y.2),g2)]) (canon (fZ<|fZ<|fc (VW.QO QK)<|fZ<|fZ<|fn)<|sc O<|sc O<|sn) (λy _ h=>?_);obtain⟨x,v⟩:=y;refine wk 5 λh=>?_
 refine cZ h O (λB h=>?_) (λB h=>?_)
 ·refine wk 13 λh=>?_
  refine Qp h (λG2 h=>aj<|we O O G2 ?_);exact wk 9999 trivial
 refine wk 10 λh=>?_
 refine SB h g2 (λy=>aC [(5,.sl 1 W 21 y.2 0 y.1.2.length),(37,eL bT f.N),(38,iZ (f.N.length:Int)),(39,iZ y.1.1)]) (λy=>Qr S W [(21,.arr 1 (List.map AV.bool y.1.2),y.2)]) Rj (λy _ h=>?_);obtain⟨⟨x1,v1⟩,g3⟩:=y;refine wk 5 λh=>?_
 refine cZ h O (λB1 h=>?_) (λB1 h=>?_)
 ·refine wk 23 λg4 h G4 h=>?_;refine Rf h (λy=>aC [(5,.sl 1 W 21 g3 0 v1.length),(8,.ptr W 8 g4 0 0),(9,iZ y.1),(37,eL bT f.N),(38,iZ (f.N.length:Int)),(39,iZ x1),(44,aF ((P9 f.N x1).Z)),(45,iZ (((P9 f.N x1).Z).length:Int)),(46,iZ y.2)]) (λy=>Qr S W [(8,.arr 3 [bT (P9 f.N x1)],g4),(21,.arr 1 (List.map AV.bool v1),g3)]) Rj (λy _ h=>?_);obtain⟨n,x2⟩:=y;refine wk 5 λh=>?_
  refine cZ h O (λB2 h=>?_) (λB2 h=>?_);·exact wk 9999 trivial
  refine wk 5 λh=>?_
  refine Ud (γ:=Nat) h (λy=>aC [(5,.sl 1 W 21 y.2 0 v1.length),(12,.bool y.1),(37,eL bT f.N),(38,iZ (f.N.length:Int)),(39,iZ x1)]) (λy=>Qr S W [(21,.arr 1 (List.map AV.bool v1),y.2)]) (λy h=>?_) (λ_ h=>?_)
  ·obtain⟨is,g5⟩:=y;refine wk 3 λh=>?_
   refine wZ W<|aT oP Ww tA (es:=[.bool is]) O (kk:=1) O O O O O O (λg6=>Qp h (λG9 h=>wZ W<|dD oP Dq Ww tA (es:=v1) (xs:=[is]) (enc:=AV.bool) (aZ 21 O) QK (bS (aZ 92 O) QK) (kk:=1) O O (λ_=>O) (λ_=>O) G9 O (λ_=>bm) (λg7=>?_)))
   exact wk 9999 trivial
  refine wk 11 λh=>?_
  refine cZ h O (λB4 h=>?_) (λB4 h=>?_);·exact wk 9999 trivial
  refine wk 5 λh=>?_
  refine cZ h O (λB5 h=>?_) (λB5 h=>?_);·exact wk 9999 trivial
  refine wk 5 λh=>?_
  refine cZ h O (λB6 h=>?_) (λB6 h=>?_);·exact wk 9999 trivial
  refine wk 5 λh=>?_
  refine cZ h O (λB7 h=>?_) (λB7 h=>?_);·exact wk 9999 trivial
  refine wk 5 λh=>?_
  refine cZ h O (λB8 h=>?_) (λB8 h=>?_);·exact wk 9999 trivial
  refine wk 5 λh=>?_
  refine cZ h O (λB9 h=>?_) (λB9 h=>?_);·refine rZ<|Uk (iZ n) O<|aj<|sI O O dZ ?_;exact wk 9999 trivial
  exact wk 9999 trivial
 refine wk 6 λh=>?_
 exact uZ<|ah (v:=.sl 1 W 21 g3 0 v1.length) O<|am<|aX (k:=21) (xs:=List.map AV.bool v1) O (v':=eL AV.bool v1) (aR O)<|Tl H<|L _ h
theorem ug{Q:Bool->Option Int->Prop}(h:mR f failed Q)(L:∀r1 r2,Q r1 r2->R (.tuple [AV.bool r1,bd 36 r2]) S) :Ctr prog 91 [aD f,iZ failed] S R:=by
 refine ar func91 rfl ntmps91 results91 Ql (λW H=>?_);refine wk 11 λg1 h=>?_;refine aj<|Qn O<|uf h λe h=>?_
 refine wk 7 λh=>?_
 refine cZ h O (λB h=>?_) (λB h=>?_)
 ·refine wk 6 λh=>?_
  exact uZ<|ah (v:=.bool false) O<|ah (v:=bd 36 e) O<|am<|ak H RE<|L _ _ h
 refine kZ<|qZ ?_;obtain⟨r,C,h⟩:=h;refine Qp h (λG h=>Vc.Qf mixed W (gO [(2,pc (eL AV.bool r))]) Ql ?_);refine wk 2 λh=>?_
 refine dC (vs:=[aD f,iZ failed]) O (vZ<|vZ<|vn) (λ_=>te C (λ_ hr=>⟨by rw[hr],rfl⟩)) O ?_;refine wk 2 λh=>?_
 refine dP O O<|ek oP sz4 dZ (λ_=>O) O O G ?_;refine wk 4 λh=>?_
 exact uZ<|ah (v:=.bool (P9 r f.A)) O<|ah (v:=.Qg) O<|am<|ak H RE<|L _ _ h
end Go.Proofs.YtbnjpdocceckeaaGreat
namespace Go.Proofs.YtbnjpdocceckeaaGreat
open Go.Gg Tryz
set_option maxRecDepth 100000
set_option maxHeartbeats 2000000
variable{S:St}{R:AV->St->Prop}
theorem fg{f:GFormula}{Q:Bool->Option Int->Prop}(h:cJ f Q)(L:∀r1 r2,Q r1 r2->R (.tuple [AV.bool r1,bd 36 r2]) S) :Ctr prog 11 [aD f] S R:=by
 refine ar func11 rfl ntmps11 results11 Ql (λW H=>?_);refine wk 9 λg1 h=>?_;refine aj<|Qn O<|lH h λr r1 h=>?_
 refine wk 13 λg2 h=>?_;refine cZ h O (λB h=>?_) (λB h=>?_)
 ·refine wk 6 λh=>?_
  exact uZ<|ah (v:=.bool false) O<|ah (v:=bd 36 r1) O<|am<|ak H RE<|L _ _ h
 refine wk 10 λh=>?_
 refine Rf h (λy=>aC [(17,eL bT r.N),(18,iZ (r.N.length:Int)),(19,iZ y)]) (λy=>Qr S W []) Rj (λx _ h=>?_);refine wk 5 λh=>?_
 refine cZ h O (λB1 h=>?_) (λB1 h=>?_)
 ·refine wk 10 λg3 h G h=>?_;refine Uz h (λy=>aC [(17,eL bT r.N),(18,iZ (r.N.length:Int)),(19,iZ x),(30,.bool y)]) (λy=>Qr S W []) (λx1 h=>?_) (λ_ h=>?_)
  ·refine cZ h O (λB2 h=>?_) (λB2 h=>?_)
   ·refine wk 5 λh=>?_
    exact uZ<|ah (v:=.bool false) O<|ah (v:=.Qg) O<|am<|ak H RE<|L _ _ h
   exact wk 9999 trivial
  exact wk 9999 trivial
 refine wk 6 λh=>?_
 exact uZ<|ah (v:=.bool true) O<|ah (v:=.Qg) O<|am<|ak H RE<|L _ _ h
end Go.Proofs.YtbnjpdocceckeaaGreat
namespace Go.Proofs.YtbnjpdocceckeaaGreat
open Go.Gg Tryz
set_option maxRecDepth 100000
set_option maxHeartbeats 2000000
variable{S:St}{R:AV->St->Prop}
end Go.Proofs.YtbnjpdocceckeaaGreat
namespace Go.Proofs.YtbnjpdocceckeaaGreat
open Go.Gg Tryz
set_option maxRecDepth 100000
set_option maxHeartbeats 2000000
variable{S:St}{R:AV->St->Prop}
variable{s:Int}
theorem tK{Q:Int->Prop}(h:nP s Q)(L:∀r1,Q r1->R (iZ r1) S) :Ctr prog 70 [iZ s] S R:=by
 refine ar func70 rfl ntmps70 results70 Ql (λW H=>?_);refine wk 10 λh=>?_
 exact uZ<|Qv H<|L _ h
theorem xL{Q:Int->Prop}(h:qg s Q)(L:∀r1,Q r1->R (iZ r1) S) :Ctr prog 69 [iZ s] S R:=by
 refine ar func69 rfl ntmps69 results69 Ql (λW H=>?_);refine wk 7 λh=>?_
 exact aj<|Qn O<|tK h λr h=>aj<|Iv td3 N7 O<|aj<|Qn O<|jP h λr1 h=>RJ (iZ r1) O<|eT<|Qv H<|L _ h
variable{Q:Bool->Prop}
theorem xK(h:qf s Q)(L:∀r1,Q r1->R (AV.bool r1) S) :Ctr prog 148 [iZ s] S R:=by
 refine ar func148 rfl ntmps148 results148 Ql (λW H=>?_);refine wk 9 λh=>?_
 refine Te h O O (λB h=>?_) (λB h=>?_)
 ·refine wk 6 λh=>?_
  exact uZ<|Qv H<|L _ h
 refine wk 4 λh=>?_
 exact uZ<|Qv H<|L _ h
theorem wp{a b:Int}(h:pf a b Q)(L:∀r1,Q r1->R (AV.bool r1) S):Ctr prog 152 [iZ a,iZ b] S R:=by
 refine ar func152 rfl ntmps152 results152 Ql (λW H=>?_);refine wk 7 λh=>?_
 refine aj<|Qn O<|tK h λr h=>?_
 refine wk 5 λh=>?_
 exact uZ<|Qv H<|L _ h
theorem Bu{i:Int}(h:sX s i Q)(L:∀r1,Q r1->R (AV.bool r1) S) :Ctr prog 41 [iZ s,iZ i] S R:=by
 refine ar func41 rfl ntmps41 results41 Ql (λW H=>?_);refine wk 9 λh=>?_
 refine Te h O O (λB h=>?_) (λB h=>?_)
 ·refine wk 5 λh=>?_
  refine Te h O O (λB1 h=>?_) (λB1 h=>?_)
  ·refine wk 4 λh=>?_
   refine Qp h (λG h=>aj<|we O O G ?_);refine wk 7 λh=>?_
   exact uZ<|Qv H<|L _ h
  refine wk 7 λh=>?_
  exact uZ<|Qv H<|L _ h
 refine wk 11 λh=>?_
 exact uZ<|Qv H<|L _ h
end Go.Proofs.YtbnjpdocceckeaaGreat
namespace Go.Proofs.YtbnjpdocceckeaaGreat
open Go.Gg Tryz
set_option maxRecDepth 100000
set_option maxHeartbeats 2000000
variable{S:St}{R:AV->St->Prop}
theorem gH{s:List Grow}(q k:Nat){Q:List Grow->Prop}{S:St}{R:AV->St->Prop}(h:bR s Q)(L:∀r1 g,Q r1->R (.sl 3 q k g 0 r1.length) (S.set q k (.arr 3 (List.map bf r1)) g)) :Ctr prog 110 [eL bf s] S R:=by
 unfold bR at h;refine ar func110 rfl ntmps110 results110 Ql (λW H=>?_);refine wk 8 λh=>?_
 refine Wl.Sf jV O O (λSf hn=>?_);replace h:=h Sf hn;refine nZ<|cZ h O (λB h=>?_) (λB h=>?_);·exact dj<|RJ .nil O<|eT<|ah (v:=.nil) O<|am<|yJ q k dZ H (λg'=>L [] g' h)
 refine kZ<|dj<|wZ W<|aT jV Ea vN (es:=[]) O (kk:=3) O O O O O O (λg1=>Uk (eL bf s) O<|Qp h (λG h=>wZ W<|dD jV Jd Ea vN (es:=([]:List Grow)) (xs:=s) (enc:=bf) (aZ 5 O) QK (O) (kk:=3) O O (λ_=>O) (λ_=>O) G O (λ_=>bm) (λg2=>?_)))
 refine wk 2 λh=>?_
 refine uZ<|ah (v:=.sl 3 W 5 g2 0 ((([]:List Grow)++s).length)) O (am ?_);show dz _ (.sl 3 W 5 g2 0 ((([]:List Grow)++s).length)) _;exact sd q k H O (λg'=>L _ g' h)
variable{Q:List Int->Prop}{x:List Int}{q0 k0 g0:Nat}
theorem iV(_:DK [(q0,k0)]){S:St}{R:AV->St->Prop}(h:gr x Q)(L:∀r1,Q r1->R (.tuple []) (Qk S [(q0,k0,.arr 1 (List.map (AV.int .i64) r1),g0)])) :Ctr prog 31 [.sl 1 q0 k0 g0 0 x.length,.fn (.func 32) [] []] (Qk S [(q0,k0,.arr 1 (List.map (AV.int .i64) x),g0)]) R:=xI KW L7 kR (λ_=>rfl) (λ_=>rfl) h.1 h.2.1 (λy a b=>L y (h.2.2 y a b))
theorem pe(_:DK [(q0,k0)]){S:St}{R:AV->St->Prop}(h:ke x Q)(L:∀r1,Q r1->R (.tuple []) (Qk S [(q0,k0,.arr 1 (List.map (AV.int .i64) r1),g0)])) :Ctr prog 31 [.sl 1 q0 k0 g0 0 x.length,.fn (.func 80) [] []] (Qk S [(q0,k0,.arr 1 (List.map (AV.int .i64) x),g0)]) R:=xI KV L7 kR (λ_=>rfl) (λ_=>rfl) h.1 h.2.1 (λy a b=>L y (h.2.2 y a b))
variable{s:List Int}
theorem nO(h:bY s Q)(L:∀r1,Q r1->R (aF r1) S) :Ctr prog 39 [aF s] S R:=by
 refine ar func39 rfl ntmps39 results39 Ql (λW H=>?_);refine wk 8 λh=>?_
 refine Wl.Sf bW O O (λSf hn=>?_);replace h:=h Sf hn;refine nZ<|cZ h O (λB h=>?_) (λB h=>?_);·exact wk 9999 trivial
 refine kZ<|dj<|wZ W<|aT bW Rz dg (es:=[]) O (kk:=1) O O O O O O (λg1=>Uk (aF s) O<|Qp h (λG h=>wZ W<|dD bW nC Rz dg (es:=([]:List Int)) (xs:=s) (enc:=iZ) (aZ 5 O) QK (O) (kk:=1) O O (λ_=>O) (λ_=>O) G O (λ_=>bm) (λg2=>?_)))
 refine wk 2 λh=>?_
 exact uZ<|ah (v:=.sl 1 W 5 g2 0 ((([]:List Int)++s).length)) O (am<|aX (k:=5) (xs:=List.map iZ (([]:List Int)++s)) O (v':=aF (([]:List Int)++s)) (aR O) (Tl H<|L _ h))
theorem np(q k:Nat){S:St}{R:AV->St->Prop}(h:bY s Q)(L:∀r1 g,Q r1->R (.sl 1 q k g 0 r1.length) (S.set q k (.arr 1 (List.map iZ r1)) g)) :Ctr prog 39 [aF s] S R:=by
 unfold bY at h;refine ar func39 rfl ntmps39 results39 Ql (λW H=>?_);refine wk 8 λh=>?_
 refine Wl.Sf bW O O (λSf hn=>?_);replace h:=h Sf hn;refine nZ<|cZ h O (λB h=>?_) (λB h=>?_);·exact dj<|RJ .nil O<|eT<|ah (v:=.nil) O<|am<|yJ q k dZ H (λg'=>L [] g' h)
 refine kZ<|dj<|wZ W<|aT bW Rz dg (es:=[]) O (kk:=1) O O O O O O (λg1=>Uk (aF s) O<|Qp h (λG h=>wZ W<|dD bW nC Rz dg (es:=([]:List Int)) (xs:=s) (enc:=iZ) (aZ 5 O) QK (O) (kk:=1) O O (λ_=>O) (λ_=>O) G O (λ_=>bm) (λg2=>?_)))
 refine wk 2 λh=>?_
 refine uZ<|ah (v:=.sl 1 W 5 g2 0 ((([]:List Int)++s).length)) O (am ?_);show dz _ (.sl 1 W 5 g2 0 ((([]:List Int)++s).length)) _;exact sd q k H O (λg'=>L _ g' h)
theorem kU(K:DK [(q0,k0)])(h:eI s Q)(L:∀r1,Q r1->R (.sl 1 q0 k0 g0 0 r1.length) (Qk S [(q0,k0,.arr 1 (List.map iZ r1),g0)])) :Ctr prog 192 [.sl 1 q0 k0 g0 0 s.length] (Qk S [(q0,k0,.arr 1 (List.map iZ s),g0)]) R:=by
 refine ar func192 rfl ntmps192 results192 Ql (λW H=>?_);have D:=(λ{X:cd} (_:∀k,Qk S X W k=none) (h:DX X)=>h) H K;have F:=λX' e=>aJ (X':=X') e H;have A0:=ae D H 0 rfl;refine wk 11 λh=>?_
 refine cZ h O (λB h=>?_) (λB h=>?_)
 ·refine wk 5 λh=>?_
  exact uZ<|Qv (F _ O)<|L _ h
 refine wk 7 λh=>?_
 refine Rf h (λy=>aC [(0,.sl 1 q0 k0 g0 0 s.length),(3,iZ y)]) (λy=>Qr (Qk S [(q0,k0,.arr 1 (List.map iZ s),g0)]) W []) Rj (λk1 _ h=>?_);refine wk 8 λh=>?_
 refine cZ h O (λB1 h=>?_) (λB1 h=>?_)
 ·refine kZ<|qZ<|bZ<|qZ<|Qp h (λJ h=>Qp h (λG h=>Qp h (λJ1 h=>Vc.Qf mixed W (λ_=>eo) Ql ?_)));refine wk 2 λh=>?_
  refine dP O O<|aV bW Se dZ O O J ?_;refine wk 3 λh=>?_
  refine dP O O<|cL O O G<|dP O O<|aV bW Se dZ O O J1 ?_;refine wk 3 λh=>?_
  refine cZ h O (λB2 h=>?_) (λB2 h=>?_)
  ·refine wk 4 λh=>?_
   refine Qp h (λYD h=>aj<|rn bW Se dZ O (l:=k1) (h:=(s.length:Int)) O O YD ?_);refine wk 8 λh=>?_
   refine Rf h (λy=>aC [(0,.sl 1 q0 k0 g0 0 y.2.2.length),(3,iZ y.1),(4,.sl 1 q0 k0 g0 (0+Int.toNat k1) (Int.toNat (s.length:Int)-Int.toNat k1:Nat)),(5,iZ y.2.1)]) (λy=>Qr (Qk S [(q0,k0,.arr 1 (List.map iZ y.2.2),g0)]) W []) Rj (λy _ h=>?_);obtain⟨k2,Vg,T1⟩:=y;refine wk 8 λh=>?_
   refine cZ h O (λB3 h=>?_) (λB3 h=>?_)
   ·refine kZ<|qZ<|bZ<|qZ<|Qp h (λJ2 h=>Qp h (λG1 h=>Qp h (λG2 h=>Qp h (λJ3 h=>Qp h (λG3 h=>Vc.Qf mixed W (λ_=>eo) Ql ?_)))));refine wk 2 λh=>?_
    refine dP O O<|qn bW Se dZ O O J2 ?_;refine wk 3 λh=>?_
    refine dP O O<|cL O O G2<|dP O O<|qn bW Se dZ O O J3 ?_;refine wk 3 λh=>?_
    refine cZ h O (λB4 h=>?_) (λB4 h=>?_)
    ·refine wk 6 λh=>?_
     refine Qp h (λJ4 h=>aj<|qn bW Se dZ O O J4<|Qp h (λG4 h=>?_));exact wk 9999 trivial
    exact wk 9999 trivial
   refine wk 5 λh=>?_
   refine Qp h (λaaM h=>aj<|rn bW Se dZ O (l:=k2) (h:=(T1.length:Int)) O O aaM<|Wl.clear bW Rz O (P_ A0 D 0 O) dg O O O (aI A0 D 0 O O) ?_);refine wk 5 λh=>?_
   refine Qp h (λagJ h=>aj<|In bW Se dZ O (h:=k2) O agJ ?_);refine wk 2 λh=>?_
   exact uZ<|ah (v:=.sl 1 q0 k0 g0 0 (Int.toNat k2)) O<|am<|GP (Int.toNat k2) (P_ A0 D 0 O) O (aI A0 D 0 O O)<|ak (F _ O) (VW.QO<|by simp only[List.length_take];omega)<|L _ h
  exact wk 9999 trivial
 refine wk 6 λh=>?_
 exact uZ<|Qv (F _ O)<|L _ h
theorem nm{slices:List (List Int)}(h:fP slices Q)(L:∀r1,Q r1->R (aF r1) S) :Ctr prog 171 [eL aF slices] S R:=by
 refine ar func171 rfl ntmps171 results171 Ql (λW H=>?_);refine wk 16 λh=>?_
 refine Rf h (λy=>aC [(0,eL aF slices),(3,iZ y.1),(9,eL aF slices),(10,iZ (slices.length:Int)),(11,iZ y.2)]) (λy=>Qr S W []) Rj (λy _ h=>?_);obtain⟨size,x⟩:=y;refine wk 5 λh=>?_
 refine cZ h O (λB h=>?_) (λB h=>?_)
 ·refine wk 22 λh G h G1 h=>?_;refine cZ h O (λB1 h=>?_) (λB1 h=>?_)
  ·refine wk 2 λh=>?_
   exact h.elim
  exact wk 9999 trivial
 refine wk 4 λh=>?_
 refine Qp h (λG3 h=>aj<|Qn O<|OK W 24 G3 λg1=>aM bm ?_);refine wk 10 λh=>?_
 refine SB h g1 (λy=>aC [(6,.sl 1 W 24 y.2 0 y.1.2.length),(25,eL aF slices),(26,iZ (slices.length:Int)),(27,iZ y.1.1)]) (λy=>Qr S W [(24,.arr 1 (List.map iZ y.1.2),y.2)]) Rj (λy _ h=>?_);obtain⟨⟨x1,RZ⟩,g2⟩:=y;refine wk 5 λh=>?_
 refine cZ h O (λB2 h=>?_) (λB2 h=>?_)
 ·refine wk 12 λh G4 h=>?_;refine Qp h (λG5 h=>wZ W<|dD bW nC Rz dg (es:=RZ) (xs:=(P9 slices x1)) (enc:=iZ) (aZ 24 O) QK (O) (kk:=1) O O (λ_=>O) (λ_=>O) G5 O (λ_=>bm) (λg3=>?_))
  exact wk 9999 trivial
 refine wk 6 λh=>?_
 exact uZ<|ah (v:=.sl 1 W 24 g2 0 RZ.length) O<|am<|aX (k:=24) (xs:=List.map iZ RZ) O (v':=aF RZ) (aR O)<|Tl H<|L _ h
theorem iu{s:List QN}{S:St}{R:AV->St->Prop}(h:R (.fn (.func 52) [] [.Q2 (AV.cells (eL bT s))]) S) :Ctr prog 22 [eL bT s] S R:=by refine ar func22 rfl ntmps22 results22 kR (λW H=>?_);refine dj<|wZ W<|LU (v:=eL bT s) rfl rfl (kk:=1) rfl (by decide) (λg1=>(RJ .Tz rfl<|nZ ?_));refine dj<|wZ W<|gS (vs:=[]) (us:=[.ptr W 1 g1 0 0]) rfl rfl<|RJ (.fn (.func 52) [] [.ptr W 1 g1 0 0]) rfl<|nZ ?_;refine Vc.agd ?_;refine ah (v:=.fn (.func 52) [] [.ptr W 1 g1 0 0]) rfl<|am ?_;show dz _ (.fn (.func 52) [] [.ptr W 1 g1 0 0]) _;exact GO H rfl rfl h
theorem ij{s:List QN}(hl:Qe (s.length:Int)):zA prog 52 [.Q2 (AV.cells (eL bT s))] (wj bT s):=by
 intro rr gg rec ix es I S hR h0;refine ar func52 rfl ntmps52 results52 kR (λW H=>?_);rw[wV H];refine dj<|wZ W<|ru N9 Pa rfl rfl (v:=eL bT s) rfl<|wZ W<|LR HD rfl<|wZ W<|cL rfl rfl (by unfold Qe at *;omega)<|RJ (.int .i64<|(s.length:Int)-1) rfl<|nZ ?_;refine Vc.Xs ?_
 refine Vc.acX (σ:=Nat×St) (λy=>y.1<=s.length/\I y.1 y.2) (λy=>s.length-y.1) (λy=>aC [(0,.yl rr 0 gg rec ix es),(1,.Q2 (AV.cells<|eL bT s)),(3,.int .i64 ((s.length:Int)-1-(y.1:Int)))]) (λy=>y.2) (0,S)
  (Jc (fc vr (fc vr (fc (Ho (by first|omega|(dsimp only;omega))) (fn))))) ⟨Nat.zero_le _,h0⟩ (λy h=>?_)
 obtain⟨i,S1⟩:=y;show Vc _ _ _ _ (aC [(0,.yl rr 0 gg rec ix es),(1,.Q2 (AV.cells (eL bT s))),(3,.int .i64 ((s.length:Int)-1-(i:Int)))]) S1;refine qZ<|dj<|Uk (.int .i64<|(s.length:Int)-1-(i:Int)) rfl<|wZ W<|Iu rfl rfl<|nZ ?_;refine Vc.aah rfl (λB=>?_) (λB=>?_)
 ·have J:i<s.length:=by have:=of_decide_eq_true B;omega
  refine Vc.ZC ?_;refine qZ<|Vc.Xs ?_;refine dj<|Uk (.yl rr 0 gg rec ix es) rfl<|Uk (.int .i64<|(s.length:Int)-1-(i:Int)) rfl<|wZ W<|ru N9 Pa rfl rfl (v:=eL bT s) rfl<|Uk (.int .i64<|(s.length:Int)-1-(i:Int)) rfl<|wZ W<|ek HD HL (by decide) (λ_=>rfl) rfl rfl om<|wZ W<|rt HL (by decide) O' rfl rfl (v:=bT (P9 s<|(s.length:Int)-1-(i:Int))) rfl ?_;refine Wl.yield hR i (by rw[si];exact J) h.2 rfl (by rw[vK];rfl) (λS2 h2=>?_);refine wZ W<|qG rfl<|nZ ?_;refine Vc.aah rfl (λB=>by cases B) (λ_=>?_)
  refine Vc.ZC ?_;refine rZ<|Uk (.int .i64<|(s.length:Int)-1-(i:Int)) rfl<|wZ W<|cL rfl rfl (by unfold Qe at *;omega)<|RJ (.int .i64<|(s.length:Int)-1-(i:Int)-1) rfl<|nZ ?_;exact⟨(i+1,S2),Jc (fc vr<|fc vr<|fc (Ho<|by first|omega|(dsimp only;omega))<|fn),⟨J,h2⟩,by show s.length-(i+1)<s.length-i;omega⟩
 ·refine Vc.aeB<|rC ?_;refine am ?_;show dz _ (.tuple []) _;have J:i=s.length:=by have:=of_decide_eq_false B;have:=h.1;omega
  subst J;exact dz.now<|by rw[si];exact h.2
theorem iz{XD T1:List P'}{Q:Bool->Prop}(h:e_ XD T1 Q)(L:∀r1,Q r1->R (AV.bool r1) S):Ctr prog 191 [eL aw XD,eL aw T1] S R:=by
 refine ar func191 rfl ntmps191 results191 Ql (λW H=>?_);refine wk 13 λh=>?_
 refine cZ h O (λB h=>?_) (λB h=>?_)
 ·refine wk 4 λh=>?_
  exact uZ<|Qv H<|L _ h
 refine wk 9 λh=>?_
 refine Rf h (λy=>aC [(0,eL aw XD),(1,eL aw T1),(12,iZ (XD.length:Int)),(13,iZ y)]) (λy=>Qr S W []) Rj (λx _ h=>?_);refine wk 5 λh=>?_
 refine cZ h O (λB1 h=>?_) (λB1 h=>?_)
 ·refine wk 9 λh=>?_
  refine Qp h (λG h=>Qp h (λG1 h=>Vc.Qf mixed W (λ_=>eo) Ql ?_));refine wk 2 λh=>?_
  refine dP O O<|ek nk gq dZ (λ_=>O) O O G ?_;refine wk 3 λh=>?_
  refine dP O O<|ek nk gq dZ (λ_=>O) O O G1 ?_;refine wk 1 λh=>?_
  refine dP O O<|MZ lF O O O O<|dN<|cZ h O (λB2 h=>?_) (λB2 h=>?_)
  ·refine wk 4 λh=>?_
   exact uZ<|Qv H<|L _ h
  exact wk 9999 trivial
 refine wk 5 λh=>?_
 exact uZ<|Qv H<|L _ h
theorem jE{x:List Q3}(_:DK [(q0,k0)]){Q:List Q3->Prop}{S:St}{R:AV->St->Prop}(h:fW x Q)(L:∀r1,Q r1->R (.tuple []) (Qk S [(q0,k0,.arr 2 (List.map mv r1),g0)])) :Ctr prog 94 [.sl 2 q0 k0 g0 0 x.length,.fn (.func 95) [] []] (Qk S [(q0,k0,.arr 2 (List.map mv x),g0)]) R:=xI KU Ox kR (λ_=>rfl) (λ_=>rfl) h.1 h.2.1 (λy a b=>L y (h.2.2 y a b))
end Go.Proofs.YtbnjpdocceckeaaGreat
namespace Go.Proofs.YtbnjpdocceckeaaGreat
open Go.Gg Tryz
set_option maxRecDepth 100000
set_option maxHeartbeats 2000000
variable{S:St}{R:AV->St->Prop}
theorem lJ{all:List (List Int)}{Q:Option Int->Prop}(h:iH all Q)(L:∀r1,Q r1->R (bd 36 r1) S) :Ctr prog 87 [eL aF all] S R:=by
 refine ar func87 rfl ntmps87 results87 Ql (λW H=>?_);refine wk 12 λh=>?_
 refine Rf h (λy=>aC [(7,eL aF all),(8,iZ (all.length:Int)),(9,iZ y)]) (λy=>Qr S W []) Rj (λx _ h=>?_);refine wk 5 λh=>?_
 refine cZ h O (λB h=>?_) (λB h=>?_)
 ·refine wk 16 λh G h=>?_;refine cZ h O (λB1 h=>?_) (λB1 h=>?_)
  ·refine wk 5 λh=>?_
   exact uZ<|Qv H<|L _ h
  refine wk 8 λh=>?_
  refine Rf h (λy=>aC [(7,eL aF all),(8,iZ (all.length:Int)),(9,iZ x),(17,aF (P9 all x)),(18,iZ ((P9 all x).length:Int)),(19,iZ y)]) (λy=>Qr S W []) Rj (λx1 _ h=>?_);refine wk 5 λh=>?_
  refine cZ h O (λB2 h=>?_) (λB2 h=>?_)
  ·refine wk 12 λh G1 h=>?_;refine aj<|Qn O<|xK h λr h=>aj<|qG O<|nZ<|cZ h O (λB3 h=>?_) (λB3 h=>?_)
   ·refine wk 5 λh=>?_
    exact uZ<|Qv H<|L _ h
   exact wk 9999 trivial
  exact wk 9999 trivial
 refine wk 5 λh=>?_
 exact uZ<|Qv H<|L _ h
variable{l:List Int}
theorem ui{Q:List Int->Prop}(h:mU l Q)(L:∀r1,Q r1->R (aF r1) S) :Ctr prog 149 [aF l] S R:=by
 refine ar func149 rfl ntmps149 results149 Ql (λW H=>?_);refine wk 7 λh=>?_
 refine aj<|Qn O<|np W 5 h λout g1 h=>aM bm ?_
 refine wk 5 λh=>?_
 refine aj<|Qn O<|bh (ac (aZ 5 O)<|aG)<|iV Sk h λRe h=>aM (aN (aG) bm)<|Qp h (λhl h=>?_)
 refine wk 4 λh=>?_
 refine wZ W<|Ec (us:=[.sl 1 W 5 g1 0 Re.length]) O (QJ (VW.QO QK)<|vn)<|bh (ac (aZ 5 O)<|aG)<|kU Sk h λUW h=>aM (aN (aG) bm) ?_
 refine wk 2 λh=>?_
 exact uZ<|ah (v:=.sl 1 W 5 g1 0 UW.length) O<|am<|aX (k:=5) (xs:=List.map iZ UW) O (v':=aF UW) (aR O)<|Tl H<|L _ h
variable{u:Int}
theorem pT{t1:Int}{q0 k0 g0:Nat}(K:DK [(q0,k0)]){Q:Bool->Prop}(h:lf t1 u Q)(L:∀r1,Q r1->R (AV.bool r1) (Qk S [(q0,k0,.arr 1 [.int .i64 u],g0)])) :Ctr prog 151 [iZ t1,.ptr q0 k0 g0 0 0] (Qk S [(q0,k0,.arr 1 [.int .i64 u],g0)]) R:=by
 refine ar func151 rfl ntmps151 results151 Ql (λW H=>?_);have D:=(λ{X:cd} (_:∀k,Qk S X W k=none) (h:DX X)=>h) H K;have F:=λX' e=>aJ (X':=X') e H;have A0:=ae D H 0 rfl;refine wk 8 λh=>?_
 exact aj<|Qn O<|wp h λr h=>RJ (.bool r) O<|eT<|Qv (F _ O)<|L _ h
variable{s:List Int}
theorem jF{q0 k0 g0 q1 k1 g1:Nat}(K:DK [(q0,k0),(q1,k1)]){Q:Int->Prop}(h:cH s u Q)(L:∀r1,Q r1->R (iZ r1) (Qk S [(q0,k0,.arr 1 (List.map iZ s),g0),(q1,k1,.arr 1 [.int .i64 u],g1)])) :Ctr prog 193 [.sl 1 q0 k0 g0 0 s.length,.fn (.func 151) [] [.ptr q1 k1 g1 0 0]] (Qk S [(q0,k0,.arr 1 (List.map iZ s),g0),(q1,k1,.arr 1 [.int .i64 u],g1)]) R:=by
 refine ar func193 rfl ntmps193 results193 Ql (λW H=>?_);have D:=(λ{X:cd} (_:∀k,Qk S X W k=none) (h:DX X)=>h) H K;have F:=λX' e=>aJ (X':=X') e H;have A0:=ae D H 0 rfl;have A1:=ae D H 1 rfl;refine wk 12 λh=>?_
 refine Rf h (λy=>aC [(0,.sl 1 q0 k0 g0 0 s.length),(1,.fn (.func 151) [] [.ptr q1 k1 g1 0 0]),(7,iZ (s.length:Int)),(8,iZ y)]) (λy=>Qr (Qk S [(q0,k0,.arr 1 (List.map iZ s),g0),(q1,k1,.arr 1 [iZ u],g1)]) W []) Rj (λx _ h=>?_);refine wk 5 λh=>?_
 refine cZ h O (λB h=>?_) (λB h=>?_)
 ·refine wk 15 λh J h=>?_;refine aj<|Qn O<|bh (ac (P_ A1 D 1 O)<|aG)<|pT Sk h λr h=>aM (ac (P_ A1 D 1 O)<|aG)<|nZ<|cZ h O (λB1 h=>?_) (λB1 h=>?_)
  ·refine wk 5 λh=>?_
   exact uZ<|Qv (F _ O)<|L _ h
  exact wk 9999 trivial
 refine wk 5 λh=>?_
 exact uZ<|Qv (F _ O)<|L _ h
theorem iO{q0 k0 g0 q1 k1 g1:Nat}(K:DK [(q0,k0),(q1,k1)]){Q:Bool->Prop}(h:c_ s u Q)(L:∀r1,Q r1->R (AV.bool r1) (Qk S [(q0,k0,.arr 1 (List.map iZ s),g0),(q1,k1,.arr 1 [.int .i64 u],g1)])) :Ctr prog 150 [.sl 1 q0 k0 g0 0 s.length,.fn (.func 151) [] [.ptr q1 k1 g1 0 0]] (Qk S [(q0,k0,.arr 1 (List.map iZ s),g0),(q1,k1,.arr 1 [.int .i64 u],g1)]) R:=by
 refine ar func150 rfl ntmps150 results150 Ql (λW H=>?_);have D:=(λ{X:cd} (_:∀k,Qk S X W k=none) (h:DX X)=>h) H K;have F:=λX' e=>aJ (X':=X') e H;have A0:=ae D H 0 rfl;have A1:=ae D H 1 rfl;refine wk 8 λh=>?_
 refine aj<|Qn O<|bh (ac (P_ A0 D 0 O)<|ac (P_ A1 D 1 O)<|aG)<|jF (Q7 [0,1] K O O) h λr h=>aM (ac (P_ A0 D 0 O)<|ac (P_ A1 D 1 O)<|aG) ?_
 refine wk 3 λh=>?_
 exact uZ<|Qv (F _ O)<|L _ h
theorem fH{Q:List Int->Prop}(h:ep l Q)(L:∀r1,Q r1->R (aF r1) S) :Ctr prog 88 [aF l] S R:=by
 refine ar func88 rfl ntmps88 results88 Ql (λW H=>?_);refine wk 12 λh=>?_
 refine aj<|Qn O<|ui h λr h=>?_
 refine wk 4 λh=>?_
 refine Vc.V6 3 20 1 O dZ (λg1=>SB h g1 (λy=>aC [(3,.sl 1 W 20 y.2 0 y.1.2.length),(7,aF r),(8,iZ (r.length:Int)),(9,iZ y.1.1)]) (λy=>Qr S W [(20,.arr 1 (List.map iZ y.1.2),y.2)]) (canon (fc (VW.QO QK)<|fZ<|fZ<|fZ<|fn)<|sc O<|sn) (λy _ h=>?_));obtain⟨⟨x,out⟩,g2⟩:=y;refine wk 5 λh=>?_
 refine cZ h O (λB h=>?_) (λB h=>?_)
 ·refine wk 13 λg3 h G h=>?_;refine wZ W<|gS (vs:=[]) (us:=[.ptr W 5 g3 0 0]) O O<|aj<|Qn O<|bh (ac (aZ 20 O)<|ac (aZ 5 O)<|aG)<|iO Sk h λr1 h=>aM (ac (aZ 20 O)<|ac (aZ 5 O)<|aG)<|aj<|qG O<|nZ<|cZ h O (λB1 h=>?_) (λB1 h=>?_)
  ·refine wk 3 λh=>?_
   refine wZ W<|aT bW Rz dg (es:=[iZ (P9 r x)]) O (kk:=1) O O O O O O (λg4=>Qp h (λG1 h=>wZ W<|dD bW nC Rz dg (es:=out) (xs:=[(P9 r x)]) (enc:=iZ) (aZ 20 O) QK (bS (aZ 19 O) QK) (kk:=1) O O (λ_=>O) (λ_=>O) G1 O (λ_=>bm) (λg5=>?_)))
   exact wk 9999 trivial
  exact wk 9999 trivial
 refine wk 6 λh=>?_
 exact uZ<|ah (v:=.sl 1 W 20 g2 0 out.length) O<|am<|aX (k:=20) (xs:=List.map iZ out) O (v':=aF out) (aR O)<|Tl H<|L _ h
variable{Q:List Int->Option Int->Prop}
theorem pS(h:kC l Q)(L:∀r1 r2,Q r1 r2->R (.tuple [aF r1,bd 36 r2]) S) :Ctr prog 89 [aF l] S R:=by
 refine ar func89 rfl ntmps89 results89 Ql (λW H=>?_);refine wk 12 λh=>?_
 refine cZ h O (λB h=>?_) (λB h=>?_)
 ·refine wk 6 λh=>?_
  exact uZ<|ah (v:=.nil) O<|ah (v:=.iface 36 (iZ 4)) O<|am<|ak H (VW.QF<|QJ (VW.QC)<|vZ<|vn)<|L _ _ h
 refine wk 7 λh=>?_
 exact uZ<|ah (v:=aF l) O<|ah (v:=.Qg) O<|am<|ak H RE<|L _ _ h
variable{a b:List Int}
theorem fI(h:cR a b Q)(L:∀r1 r2,Q r1 r2->R (.tuple [aF r1,bd 36 r2]) S) :Ctr prog 42 [aF a,aF b] S R:=by
 refine ar func42 rfl ntmps42 results42 Ql (λW H=>?_);refine wk 10 λh=>?_
 refine wZ W<|aT nN po jd (es:=[aF a,aF b]) O (kk:=1) O O O O O O (λg1=>fh (aU (k:=16) (xs:=List.map aF [a,b]) O (es:=[(0,aF a),(1,aF b),(16,eL aF [a,b])]) (fZ<|fZ<|fc (aR O)<|fn) (m:=[]) (sn)) (aj<|Qn O<|lJ h λe h=>?_));refine wk 7 λh=>?_
 refine cZ h O (λB h=>?_) (λB h=>?_)
 ·refine wk 6 λh=>?_
  exact uZ<|ah (v:=.nil) O<|ah (v:=bd 36 e) O<|am<|ak H (VW.QF<|QJ (VW.QC)<|vZ<|vn)<|L _ _ h
 refine wk 4 λh=>?_
 refine aj<|Qn O<|fH h λa1 h=>Uk (aF b) O<|aj<|Qn O<|fH h λb1 h=>?_
 refine wk 5 λh=>?_
 refine wZ W<|fx (enc:=AV.bool) py kx trivial (λg2=>?_)
 refine wk 14 λh=>?_
 refine Vc.V6 8 50 1 O dZ (λg3=>SB h g3 (λy=>aC [(1,aF b1),(7,.map W 25 g2),(8,.sl 1 W 50 y.2 0 y.1.2.2.length),(26,aF a1),(27,iZ (a1.length:Int)),(28,iZ y.1.1)]) (λy=>Qr S W [(25,ay AV.bool (.one .i64) y.1.2.1,g2),(50,.arr 1 (List.map iZ y.1.2.2),y.2)]) (canon (fZ<|fZ<|fc (VW.QO QK)<|fZ<|fZ<|fZ<|fn)<|sc O<|sc O<|sn) (λy _ h=>?_));obtain⟨⟨x,x1,Us⟩,g4⟩:=y;refine wk 5 λh=>?_
 refine cZ h O (λB1 h=>?_) (λB1 h=>?_)
 ·refine wk 16 λh G h=>?_;refine SB h g4 (λy=>aC [(1,aF b1),(7,.map W 25 g2),(8,.sl 1 W 50 y.2 0 y.1.2.2.length),(10,iZ (P9 a1 x)),(26,aF a1),(27,iZ (a1.length:Int)),(28,iZ x),(32,aF b1),(33,iZ (b1.length:Int)),(34,iZ y.1.1)]) (λy=>Qr S W [(25,ay AV.bool (.one .i64) y.1.2.1,g2),(50,.arr 1 (List.map iZ y.1.2.2),y.2)]) Rj (λy _ h=>?_);obtain⟨⟨x2,x3,S_⟩,g5⟩:=y;refine wk 5 λh=>?_
  refine cZ h O (λB2 h=>?_) (λB2 h=>?_)
  ·refine wk 20 λh G1 h=>?_;refine aj<|lD (aZ 25 O) py kx Ww (z:=false) tA O O<|aj<|qG O<|nZ<|cZ h O (λB3 h=>?_) (λB3 h=>?_)
   ·refine wk 4 λh=>?_
    refine aj<|fY (v:=true) (aZ 25 O) py kx O O O bm ?_;refine wk 4 λh=>?_
    refine wZ W<|aT bW Rz dg (es:=[iZ (bits .or .i64 (P9 a1 x)<|P9 b1 x2)]) O (kk:=1) O O O O O O (λg6=>Qp h (λG2 h=>wZ W<|dD bW nC Rz dg (es:=S_) (xs:=[(bits .or .i64 (P9 a1 x)<|P9 b1 x2)]) (enc:=iZ) (aZ 50 O) QK (bS (aZ 49 O) QK) (kk:=1) O O (λ_=>O) (λ_=>O) G2 O (λ_=>bm) (λg7=>?_)))
    exact wk 9999 trivial
   exact wk 9999 trivial
  exact wk 9999 trivial
 refine wk 4 λh=>?_
 refine fh (aU (k:=50) (xs:=List.map iZ Us) O (es:=[(53,aF Us)]) (fc (aR O)<|fn) (m:=[])<|sn)<|aj<|Qn O<|fH h λr h=>aj<|Qn O<|pS h λr1 r2 h=>?_
 refine wk 5 λh=>?_
 exact uZ<|ah (v:=aF r1) O<|ah (v:=bd 36 r2) O<|am<|ak H RE<|L _ _ h
theorem jy(h:gb a b Q)(L:∀r1 r2,Q r1 r2->R (.tuple [aF r1,bd 36 r2]) S) :Ctr prog 127 [aF a,aF b] S R:=by
 refine ar func127 rfl ntmps127 results127 Ql (λW H=>?_);refine wk 10 λh=>?_
 refine wZ W<|aT nN po jd (es:=[aF a,aF b]) O (kk:=1) O O O O O O (λg1=>fh (aU (k:=9) (xs:=List.map aF [a,b]) O (es:=[(0,aF a),(1,aF b),(9,eL aF [a,b])]) (fZ<|fZ<|fc (aR O)<|fn) (m:=[]) (sn)) (aj<|Qn O<|lJ h λe h=>?_));refine wk 7 λh=>?_
 refine cZ h O (λB h=>?_) (λB h=>?_)
 ·refine wk 6 λh=>?_
  exact uZ<|ah (v:=.nil) O<|ah (v:=bd 36 e) O<|am<|ak H (VW.QF<|QJ (VW.QC)<|vZ<|vn)<|L _ _ h
 refine wk 5 λh=>?_
 refine wZ W<|aT nN po jd (es:=[aF a,aF b]) O (kk:=1) O O O O O O (λg2=>fh (aU (k:=16) (xs:=List.map aF [a,b]) O (es:=[(16,eL aF [a,b])]) (fc (aR O)<|fn) (m:=[])<|sn)<|aj<|Qn O<|nm h λr h=>aj<|Qn O<|fH h λr1 h=>aj<|Qn O<|pS h λr2 r3 h=>?_);refine wk 5 λh=>?_
 exact uZ<|ah (v:=aF r2) O<|ah (v:=bd 36 r3) O<|am<|ak H RE<|L _ _ h
theorem tg(h:lK l Q)(L:∀r1 r2,Q r1 r2->R (.tuple [aF r1,bd 36 r2]) S) :Ctr prog 40 [aF l] S R:=by
 refine ar func40 rfl ntmps40 results40 Ql (λW H=>?_);refine wk 9 λh=>?_
 refine wZ W<|aT nN po jd (es:=[aF l]) O (kk:=1) O O O O O O (λg1=>fh (aU (k:=6) (xs:=List.map aF [l]) O (es:=[(0,aF l),(6,eL aF [l])]) (fZ<|fc (aR O)<|fn) (m:=[]) (sn)) (aj<|Qn O<|lJ h λe h=>?_));refine wk 7 λh=>?_
 refine cZ h O (λB h=>?_) (λB h=>?_)
 ·refine wk 6 λh=>?_
  exact uZ<|ah (v:=.nil) O<|ah (v:=bd 36 e) O<|am<|ak H (VW.QF<|QJ (VW.QC)<|vZ<|vn)<|L _ _ h
 refine wk 4 λh=>?_
 refine aj<|Qn O<|fH h λr h=>?_
 refine wk 3 λh=>?_
 exact uZ<|ah (v:=aF r) O<|ah (v:=.Qg) O<|am<|ak H RE<|L _ _ h
end Go.Proofs.YtbnjpdocceckeaaGreat
namespace Go.Proofs.YtbnjpdocceckeaaGreat
open Go.Gg Tryz
set_option maxRecDepth 100000
set_option maxHeartbeats 2000000
variable{S:St}{R:AV->St->Prop}
variable{f:GFormula}
theorem wB{Q:Option Int->Prop}(h:lU f Q)(L:∀r1,Q r1->R (bd 36 r1) S) :Ctr prog 36 [aD f] S R:=by
 refine ar func36 rfl ntmps36 results36 Ql (λW H=>?_);refine wk 8 λg1 h=>?_;refine aj<|Qn O<|fg h λr r1 h=>?_
 refine wk 7 λh=>?_
 refine Uz h (λy=>aC [(4,bd 36 r1),(15,.bool y)]) (λy=>Qr S W []) (λx h=>?_) (λ_ h=>?_)
 ·refine cZ h O (λB h=>?_) (λB h=>?_)
  ·refine wk 5 λh=>?_
   exact uZ<|Qv H<|L _ h
  refine wk 6 λh=>?_
  exact uZ<|Qv H<|L _ h
 exact wk 9999 trivial
variable{Q:List Int->Option Int->Prop}{args:List (List Int)}
theorem BG(h:ta args Q)(L:∀r1 r2,Q r1 r2->R (.tuple [aF r1,bd 36 r2]) S) :Ctr prog 84 [eL aF args] S R:=by
 refine ar func84 rfl ntmps84 results84 Ql (λW H=>?_);refine wk 7 λh=>?_
 refine wZ W<|aT bW Rz dg (es:=[iZ 0]) O (kk:=1) O O O O O O (λg1=>?_)
 refine wk 14 λh=>?_
 refine Dy (aU (k:=8) (xs:=List.map iZ [0]) O (es:=[(4,aF [0]),(9,eL aF args),(10,iZ (args.length:Int)),(11,iZ 0)]) (fc (aR O)<|fZ<|fZ<|fZ<|fn) (m:=[]) (sn)) (Rf h (λy=>aC [(4,aF y.1),(9,eL aF args),(10,iZ (args.length:Int)),(11,iZ y.2)]) (λy=>Qr S W []) Rj (λy _ h=>?_));obtain⟨out,x⟩:=y;refine wk 5 λh=>?_
 refine cZ h O (λB h=>?_) (λB h=>?_)
 ·refine wk 13 λh G h=>?_;refine aj<|Qn O<|fI h λr r1 h=>?_
  refine wk 11 λh=>?_
  refine cZ h O (λB1 h=>?_) (λB1 h=>?_)
  ·refine wk 6 λh=>?_
   exact uZ<|ah (v:=.nil) O<|ah (v:=bd 36 r1) O<|am<|ak H (VW.QF<|QJ (VW.QC)<|vZ<|vn)<|L _ _ h
  exact wk 9999 trivial
 refine wk 7 λh=>?_
 exact uZ<|ah (v:=aF out) O<|ah (v:=.Qg) O<|am<|ak H RE<|L _ _ h
theorem zT(h:rm args Q)(L:∀r1 r2,Q r1 r2->R (.tuple [aF r1,bd 36 r2]) S) :Ctr prog 85 [eL aF args] S R:=by
 refine ar func85 rfl ntmps85 results85 Ql (λW H=>?_);refine wk 21 λh=>?_
 refine Rf h (λy=>aC [(4,aF y.1),(8,eL aF args),(9,iZ (args.length:Int)),(10,iZ y.2)]) (λy=>Qr S W []) (canon (fc (VW.QC)<|fZ<|fZ<|fZ<|fn)<|sn) (λy _ h=>?_);obtain⟨out,x⟩:=y;refine wk 5 λh=>?_
 refine cZ h O (λB h=>?_) (λB h=>?_)
 ·refine wk 13 λh G h=>?_;refine aj<|Qn O<|jy h λr r1 h=>?_
  refine wk 11 λh=>?_
  refine cZ h O (λB1 h=>?_) (λB1 h=>?_)
  ·refine wk 6 λh=>?_
   exact uZ<|ah (v:=.nil) O<|ah (v:=bd 36 r1) O<|am<|ak H (VW.QF<|QJ (VW.QC)<|vZ<|vn)<|L _ _ h
  exact wk 9999 trivial
 refine wk 7 λh=>?_
 exact uZ<|ah (v:=aF out) O<|ah (v:=.Qg) O<|am<|ak H RE<|L _ _ h
theorem yf{most:Int}(h:qk args most Q)(L:∀r1 r2,Q r1 r2->R (.tuple [aF r1,bd 36 r2]) S) :Ctr prog 86 [eL aF args,iZ most] S R:=by
 refine ar func86 rfl ntmps86 results86 Ql (λW H=>?_);refine wk 9 λh G h=>?_;refine Qp h (λG1 h=>wZ W<|rU nN sP po jd (kk:=1) O O O G1 (λg1=>fh (Rm.ow (k:=14) (o':=.arr 1 (List.map aF<|bA (most+1) [])) O (OW.rep<|SG.US<|QJ (VW.QC)<|vn)) ?_));refine wk 5 λh=>?_
 refine wZ W<|aT bW Rz dg (es:=[iZ 0]) O (kk:=1) O O O O O O (λg2=>?_)
 refine wk 1 λh J h=>?_;refine fh (aU (k:=16) (xs:=List.map iZ [0]) O (es:=[(0,eL aF args),(1,iZ most),(6,.sl 1 W 14 g1 0 (Int.toNat<|most+1)),(16,aF [0]),(17,.ptr W 14 g1 (Int.toNat 0) 0)]) (fZ<|fZ<|fc (kz O)<|fc (aR O)<|fZ<|fn) (m:=[(14,.arr 1 (List.map aF<|bA (most+1) []),g1)]) (sc O<|sn)) ?_;refine wk 10 λh=>?_
 refine Rf h (λy=>aC [(1,iZ most),(6,.sl 1 W 14 g1 0 y.2.length),(18,eL aF args),(19,iZ (args.length:Int)),(20,iZ y.1)]) (λy=>Qr S W [(14,.arr 1 (List.map aF y.2),g1)]) (canon (fZ<|fc (VW.QO QK)<|fZ<|fZ<|fZ<|fn)<|sc O<|sn) (λy _ h=>?_);obtain⟨x,list⟩:=y;refine wk 5 λh=>?_
 refine cZ h O (λB h=>?_) (λB h=>?_)
 ·refine wk 15 λh G2 h=>?_;refine Rf h (λy=>aC [(1,iZ most),(6,.sl 1 W 14 g1 0 y.2.length),(8,aF (P9 args x)),(9,iZ y.1),(18,eL aF args),(19,iZ (args.length:Int)),(20,iZ x)]) (λy=>Qr S W [(14,.arr 1 (List.map aF y.2),g1)]) Rj (λy _ h=>?_);obtain⟨j,QU⟩:=y;refine wk 6 λh=>?_
  refine cZ h O (λB1 h=>?_) (λB1 h=>?_)
  ·refine wk 11 λh G3 h J1 h=>?_;refine aj<|Qn O<|fI h λr r1 h=>?_
   refine wk 12 λh=>?_
   refine cZ h O (λB2 h=>?_) (λB2 h=>?_)
   ·refine wk 6 λh=>?_
    exact uZ<|ah (v:=.nil) O<|ah (v:=bd 36 r1) O<|am<|ak H (VW.QF<|QJ (VW.QC)<|vZ<|vn)<|L _ _ h
   refine wk 10 λh J2 h=>?_;refine aj<|Qn O<|jy h λr2 r3 h=>?_
   refine wk 12 λh J3 h=>?_;refine cZ h O (λB3 h=>?_) (λB3 h=>?_)
   ·refine wk 6 λh=>?_
    exact uZ<|ah (v:=.nil) O<|ah (v:=bd 36 r3) O<|am<|ak H (VW.QF<|QJ (VW.QC)<|vZ<|vn)<|L _ _ h
   exact wk 9999 trivial
  exact wk 9999 trivial
 refine wk 10 λh J4 h=>?_;exact uZ<|ah (v:=aF (P9 list most)) O<|ah (v:=.Qg) O<|am<|ak H RE<|L _ _ h
theorem yg{x:QN}(h:nq x args Q)(L:∀r1 r2,Q r1 r2->R (.tuple [aF r1,bd 36 r2]) S) :Ctr prog 38 [bT x,eL aF args] S R:=by
 refine ar func38 rfl ntmps38 results38 Ql (λW H=>?_);refine wk 18 λg1 h=>?_;refine cZ h O (λB h=>?_) (λB h=>?_)
 ·refine wk 7 λh=>?_
  refine cZ h O (λB1 h=>?_) (λB1 h=>?_)
  ·refine dj<|wZ W<|aT bW Rz dg (es:=[iZ 0]) O (kk:=1) O O O O O O (λg2=>?_)
   refine wk 3 λh=>?_
   exact uZ<|ah (v:=.sl 1 W 13 g2 0 ([0].length)) O<|ah (v:=.Qg) O<|am<|aX (k:=13) (xs:=List.map iZ [0]) O (v':=.tuple [aF [0],.Qg]) (VW.QF<|QJ (aR O)<|vZ<|vn)<|ak H RE<|L _ _ h
  refine wk 6 λh=>?_
  exact uZ<|ah (v:=.nil) O<|ah (v:=.Qg) O<|am<|ak H (VW.QF<|QJ (VW.QC)<|vZ<|vn)<|L _ _ h
 refine wk 5 λh=>?_
 refine cZ h O (λB2 h=>?_) (λB2 h=>?_)
 ·refine wk 3 λh=>?_
  refine aj<|Qn O<|BG h λr r1 h=>?_
  refine wk 5 λh=>?_
  exact uZ<|ah (v:=aF r) O<|ah (v:=bd 36 r1) O<|am<|ak H RE<|L _ _ h
 refine wk 5 λh=>?_
 refine cZ h O (λB3 h=>?_) (λB3 h=>?_)
 ·refine wk 3 λh=>?_
  refine aj<|Qn O<|zT h λr2 r3 h=>?_
  refine wk 5 λh=>?_
  exact uZ<|ah (v:=aF r2) O<|ah (v:=bd 36 r3) O<|am<|ak H RE<|L _ _ h
 refine wk 10 λh G h G1 h=>?_;refine aj<|Qn O<|yf h λr4 r5 h=>?_
 refine wk 5 λh=>?_
 exact uZ<|ah (v:=aF r4) O<|ah (v:=bd 36 r5) O<|am<|ak H RE<|L _ _ h
theorem qF(h:eA f Q)(L:∀r1 r2,Q r1 r2->R (.tuple [aF r1,bd 36 r2]) S) :Ctr prog 10 [aD f] S R:=by
 refine ar func10 rfl ntmps10 results10 Ql (λW H=>?_);refine wk 10 λg1 h=>?_;refine aj<|Qn O<|wB h λe h=>?_
 refine wk 7 λh=>?_
 refine cZ h O (λB h=>?_) (λB h=>?_)
 ·refine wk 6 λh=>?_
  exact uZ<|ah (v:=.nil) O<|ah (v:=bd 36 e) O<|am<|ak H (VW.QF<|QJ (VW.QC)<|vZ<|vn)<|L _ _ h
 refine wk 4 λh=>?_
 refine aj<|Qn O<|lH h λr r1 h=>?_
 refine wk 13 λg2 h=>?_;refine cZ h O (λB1 h=>?_) (λB1 h=>?_)
 ·refine wk 6 λh=>?_
  exact uZ<|ah (v:=.nil) O<|ah (v:=bd 36 r1) O<|am<|ak H (VW.QF<|QJ (VW.QC)<|vZ<|vn)<|L _ _ h
 refine wk 9 λh G h=>?_;refine Qp h (λG1 h=>wZ W<|rU nN sP po jd (kk:=1) O O O G1 (λg3=>fh (Rm.ow (k:=35) (o':=.arr 1 (List.map aF<|bA 0 [])) O (OW.rep<|SG.US<|QJ (VW.QC)<|vn)) ?_));refine wk 10 λh=>?_
 refine SB h g3 (λy=>aC [(5,.ptr W 5 g2 0 0),(7,.sl 1 W 35 y.2 0 y.1.2.length),(37,iZ r.Y),(38,iZ y.1.1)]) (λy=>Qr S W [(5,.arr 3 [aD r],g2),(35,.arr 1 (List.map aF y.1.2),y.2)]) (canon (fZ<|fc (VW.QO QK)<|fZ<|fZ<|fn)<|sc O<|sc O<|sn) (λy _ h=>?_);obtain⟨⟨x,list⟩,g4⟩:=y;refine wk 5 λh=>?_
 refine cZ h O (λB2 h=>?_) (λB2 h=>?_)
 ·refine wk 11 λh=>?_
  refine Qp h (λG2 h=>aj<|lz O O G2<|wZ W<|aT bW Rz dg (es:=[iZ (1*2^(Int.toNat x))]) O (kk:=1) O O O O O O (λg5=>fh (aU (k:=44) (xs:=List.map iZ [(1*2^(Int.toNat x))]) O (es:=[(5,.ptr W 5 g2 0 0),(37,iZ r.Y),(38,iZ x),(41,.sl 1 W 35 g4 0 list.length),(44,aF [(1*2^(Int.toNat x))])]) (fZ<|fZ<|fZ<|fc (kz O)<|fc (aR O)<|fn) (m:=[(5,.arr 3 [aD r],g2),(35,.arr 1 (List.map aF list),g4)]) (sc O<|sc O<|sn)) (wZ W<|aT nN po jd (es:=[aF [(1*2^(Int.toNat x))]]) O (kk:=1) O O O O O O (λg7=>Qp h (λG3 h=>wZ W<|dD nN sP po jd (es:=list) (xs:=[[(1*2^(Int.toNat x))]]) (enc:=aF) (aZ 35 O) QK (bS (aZ 45 O) QK) (kk:=1) O O (λ_=>O) (λ_=>O) G3 O (λ_=>bm) (λg8=>?_))))))
  exact wk 9999 trivial
 refine wk 10 λh=>?_
 refine SB h g4 (λy=>aC [(5,.ptr W 5 g2 0 0),(7,.sl 1 W 35 y.2 0 y.1.2.length),(49,eL bT r.N),(50,iZ (r.N.length:Int)),(51,iZ y.1.1)]) (λy=>Qr S W [(5,.arr 3 [aD r],g2),(35,.arr 1 (List.map aF y.1.2),y.2)]) Rj (λy _ h=>?_);obtain⟨⟨x1,QU⟩,g9⟩:=y;refine wk 5 λh=>?_
 refine cZ h O (λB3 h=>?_) (λB3 h=>?_)
 ·refine wk 23 λg10 h G5 h=>?_;refine Vc.V6 11 68 1 O dZ (λg11=>SB h g11 (λy=>aC [(5,.ptr W 5 g2 0 0),(7,.sl 1 W 35 g9 0 QU.length),(10,.ptr W 10 g10 0 0),(11,.sl 1 W 68 y.2 0 y.1.2.length),(49,eL bT r.N),(50,iZ (r.N.length:Int)),(51,iZ x1),(56,aF ((P9 r.N x1).Z)),(57,iZ (((P9 r.N x1).Z).length:Int)),(58,iZ y.1.1)]) (λy=>Qr S W [(5,.arr 3 [aD r],g2),(10,.arr 3 [bT (P9 r.N x1)],g10),(35,.arr 1 (List.map aF QU),g9),(68,.arr 1 (List.map aF y.1.2),y.2)]) (canon (fZ<|fZ<|fZ<|fc (VW.QO QK)<|kD<|fZ<|fZ<|fn)<|mK O O O O<|sn) (λy _ h=>?_));obtain⟨⟨x2,args⟩,g12⟩:=y;refine wk 5 λh=>?_
  refine cZ h O (λB4 h=>?_) (λB4 h=>?_)
  ·refine wk 15 λh G6 h J h=>?_;refine wZ W<|aT nN po jd (es:=[aF (P9 QU<|P9 ((P9 r.N x1).Z) x2)]) O (kk:=1) O O O O O O (λg13=>Qp h (λG7 h=>wZ W<|dD nN sP po jd (es:=args) (xs:=[(P9 QU<|P9 ((P9 r.N x1).Z) x2)]) (enc:=aF) (aZ 68 O) QK (bS (aZ 67 O) QK) (kk:=1) O O (λ_=>O) (λ_=>O) G7 O (λ_=>bm) (λg14=>?_)))
   exact wk 9999 trivial
  refine wk 5 λh=>?_
  refine fh (aU (k:=68) (xs:=List.map aF args) O (es:=[(5,.ptr W 5 g2 0 0),(7,.sl 1 W 35 g9 0 QU.length),(49,eL bT r.N),(50,iZ (r.N.length:Int)),(51,iZ x1),(71,bT (P9 r.N x1)),(72,eL aF args)]) (fZ<|fc (kz O)<|kD<|fc (aR O)<|fn) (m:=[(5,.arr 3 [aD r],g2),(35,.arr 1 (List.map aF QU),g9)]) (sc O<|sc O<|sn)) (aj<|Qn O<|yg h λr2 r3 h=>?_);refine wk 12 λh=>?_
  refine cZ h O (λB5 h=>?_) (λB5 h=>?_)
  ·refine wk 6 λh=>?_
   exact uZ<|ah (v:=.nil) O<|ah (v:=bd 36 r3) O<|am<|ak H (VW.QF<|QJ (VW.QC)<|vZ<|vn)<|L _ _ h
  refine wk 4 λh=>?_
  refine wZ W<|aT nN po jd (es:=[aF r2]) O (kk:=1) O O O O O O (λg15=>Qp h (λG9 h=>wZ W<|dD nN sP po jd (es:=QU) (xs:=[r2]) (enc:=aF) (aZ 35 O) QK (bS (aZ 81 O) QK) (kk:=1) O O (λ_=>O) (λ_=>O) G9 O (λ_=>bm) (λg16=>?_)))
  exact wk 9999 trivial
 refine wk 8 λh J1 h=>?_;refine aj<|Qn O<|nO h λr4 h=>?_
 refine wk 3 λh=>?_
 exact uZ<|ah (v:=aF r4) O<|ah (v:=.Qg) O<|am<|ak H RE<|L _ _ h
end Go.Proofs.YtbnjpdocceckeaaGreat
