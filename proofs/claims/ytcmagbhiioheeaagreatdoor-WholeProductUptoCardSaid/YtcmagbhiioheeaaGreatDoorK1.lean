/- Walks of functions. Conditions: none. -/
import Derived.Test.YtcmagbhiioheeaaGreatDoorWa
import Derived.Test.YtcmagbhiioheeaaGreatDoorGgTy
import Derived.Test.YtcmagbhiioheeaaGreatDoorGj
import Derived.Test.YtcmagbhiioheeaaGreatDoorGd
import Derived.Test.YtcmagbhiioheeaaGreatDoorGi
namespace Go.Proofs.YtcmagbhiioheeaaGreatDoor
open Go.Gg Tryz
set_option maxRecDepth 100000
set_option maxHeartbeats 2000000
variable {S:St} {R:AV->St->Prop}
theorem bo {a:List Int} {Q:List Int->Prop} (h:bz a Q) (hQ:∀r1,Q r1->R (aE r1) S) :
  Ctr prog 91 [aE a] S R:=by
 refine au func91 rfl ntmps91 results91 krZ (λrg hrg=>?_)
 refine wk 10 λh=>?_
 refine jnZ h (λy=>aw [(0,aE a),(3,iZ y)]) (λy=>stL S rg []) (λn h=>?_) (λ_ h=>?_)
 ·refine wk 6 λh=>?_
  refine cZ h O (λhb h=>?_) (λhb h=>?_)
  ·exact wk 9999 trivial
  refine kZ<|dA<|wZ rg<|aV dz gN dG (es:=[]) O (kk:=1) O O O O O O (λg1=>?_)
  refine wk 2 λh=>?_
  refine tkZ h (λhg h=>am<|mQ dz kT dZ (λ_=>O) O (l:=0) (h:=n) O O hg<|tkZ h (λhg1 h=>wZ rg<|cu dz iL gN dG (es:=([]:List Int)) (xs:=(fe a 0 n)) (enc:=AV.int .u32) (aZ 20 O) lzZ (O) (kk:=1) O O (λ_=>O) (λ_=>O) hg1 O (λ_=>bY) (λg2=>?_)))
  refine wk 2 λh=>?_
  exact uZ<|aj (v:=.sl 1 rg 20 g2 0 ((([]:List Int)++(fe a 0 n)).length)) O (aq<|aP (k:=20) (xs:=List.map (AV.int .u32) (([]:List Int)++(fe a 0 n))) O (v':=aE (([]:List Int)++(fe a 0 n))) (aL O) (goZ hrg<|hQ _ h))
 refine bZ<|lpZ h (λy=>aw [(0,aE a),(3,iZ y)]) (λy=>stL S rg []) eCa (λn1 _ h=>?_)
 refine wk 6 λh=>?_
 refine gtZ h O O (λhb1 h=>?_) (λhb1 h=>?_)
 ·exact wk 9999 trivial
 refine wk 7 λh=>?_
 refine cFZ O O ?_
 exact wk 9999 trivial
theorem eU {a:List Int} {b:List Int} {Q:Int->Prop} (h:du a b Q) (hQ:∀r1,Q r1->R (iZ r1) S) :
  Ctr prog 50 [aE a,aE b] S R:=by
 refine au func50 rfl ntmps50 results50 krZ (λrg hrg=>?_)
 refine wk 7 λh=>?_
 refine am<|clZ O<|bo h λa1 h=>mvZ (aE b) O<|am<|clZ O<|bo h λb1 h=>?_
 refine wk 12 λh=>?_
 refine cZ h O (λhb h=>?_) (λhb h=>?_)
 ·refine wk 9 λh=>?_
  refine cZ h O (λhb1 h=>?_) (λhb1 h=>?_)
  ·refine wk 4 λh=>?_
   exact uZ<|gv1 hrg<|hQ _ h
  refine wk 5 λh=>?_
  exact uZ<|gv1 hrg<|hQ _ h
 refine wk 10 λh hg h=>?_
 refine lpZ h (λy=>aw [(0,aE a1),(1,aE b1),(5,iZ y)]) (λy=>stL S rg []) eCa (λi _ h=>?_)
 refine wk 6 λh=>?_
 refine cZ h O (λhb2 h=>?_) (λhb2 h=>?_)
 ·refine kZ<|qZ<|bZ<|qZ<|qZ<|tkZ h (λhg1 h=>tkZ h (λhg2 h=>Vc.drawn' mixed rg (λ_=>iV) krZ ?_))
  refine wk 2 λh=>?_
  refine dP O O<|fv dz kT dZ (λ_=>O) O O hg1 ?_
  refine wk 3 λh=>?_
  refine dP O O<|fv dz kT dZ (λ_=>O) O O hg2 ?_
  refine wk 3 λh=>?_
  refine cZ h O (λhb3 h=>?_) (λhb3 h=>?_)
  ·refine wk 4 λh=>?_
   exact uZ<|gv1 hrg<|hQ _ h
  refine kZ<|qZ<|tkZ h (λhg3 h=>tkZ h (λhg4 h=>Vc.drawn' mixed rg (λ_=>iV) krZ ?_))
  refine wk 2 λh=>?_
  refine dP O O<|fv dz kT dZ (λ_=>O) O O hg3 ?_
  refine wk 3 λh=>?_
  refine dP O O<|fv dz kT dZ (λ_=>O) O O hg4 ?_
  refine wk 3 λh=>?_
  refine cZ h O (λhb4 h=>?_) (λhb4 h=>?_)
  ·exact dA<|asZ (iZ 1) O<|fI<|gv1 hrg<|hQ _ h
  exact wk 9999 trivial
 refine wk 5 λh=>?_
 exact uZ<|gv1 hrg<|hQ _ h
theorem l_ {a:List Int} {b:Int} {Q:List Int->Int->Prop} (h:gZ a b Q) (hQ:∀r1 r2,Q r1 r2->R (.tuple [aE r1,AV.int .u32 r2]) S) :
  Ctr prog 92 [aE a,AV.int .u32 b] S R:=by
 refine au func92 rfl ntmps92 results92 krZ (λrg hrg=>?_)
 refine wk 9 λh=>?_
 refine tkZ h (λhg h=>wZ rg<|fg dz iL gN (enc:=AV.int .u32) (z':=0) dG (kk:=1) O O O hg (λg1=>?_))
 refine wk 15 λh hg1 h=>?_
 refine lpZ h (λy=>aw [(0,aE a),(1,.int .u32 b),(6,.sl 1 rg 11 g1 0 y.2.2.length),(7,.int .u64 y.1),(8,iZ y.2.1)]) (λy=>stL S rg [(11,.arr 1 (List.map (AV.int .u32) y.2.2),g1)]) (canon (fZ<|fZ<|fc (VW.slen lzZ)<|fZ<|fZ<|fn)<|sc O<|sn) (λy _ h=>?_)
 obtain⟨rest,i,out⟩:=y
 refine wk 6 λh=>?_
 refine cZ h O (λhb h=>?_) (λhb h=>?_)
 ·refine wk 13 λh hg2 h=>?_
  refine stZ h (λrest1 hs h=>wZ rg<|bT (v:=.int .u64 rest1) (by subst hs;rfl) ?_)
  refine wk 8 λh=>?_
  refine tkZ h (λhg3 h=>am<|F9 O O hg3 ?_)
  refine wk 8 λh hi h=>?_
  refine tkZ h (λhg4 h=>am<|F8 O O hg4 ?_)
  exact wk 9999 trivial
 refine wk 4 λh=>?_
 refine dr (aW (k:=11) (xs:=List.map (AV.int .u32) out) O (es:=[(7,.int .u64 rest),(39,aE out)]) (fZ<|fc (aL O)<|fn) (m:=[]) (sn)) (am<|clZ O<|bo h λr h=>?_)
 refine wk 5 λh=>?_
 exact uZ<|aj (v:=aE r) O<|aj (v:=.int .u32 (IntKind.wrap .u32 rest)) O<|aq<|ar hrg eVw<|hQ _ _ h
theorem oG {n:Int} {Q:List Int->Prop} (h:kA n Q) (hQ:∀r1,Q r1->R (aE r1) S) :
  Ctr prog 109 [iZ n] S R:=by
 refine au func109 rfl ntmps109 results109 krZ (λrg hrg=>?_)
 refine wk 10 λh=>?_
 refine cZ h O (λhb h=>?_) (λhb h=>?_)
 ·exact wk 9999 trivial
 refine wk 8 λh=>?_
 exact wZ rg<|aV dz gN dG (es:=[.int .u32 (IntKind.wrap .u32 n),.int .u32 (IntKind.wrap .u32<|n / 2^(Int.toNat 32))]) O (kk:=1) O O O O O O (λg1=>dr (aW (k:=10) (xs:=List.map (AV.int .u32) [(IntKind.wrap .u32 n),(IntKind.wrap .u32<|n / 2^(Int.toNat 32))]) O (es:=[(10,aE [(IntKind.wrap .u32 n),(IntKind.wrap .u32<|n / 2^(Int.toNat 32))])]) (fc (aL O)<|fn) (m:=[]) (sn)) (am<|clZ O<|bo h λr h=>asZ (aE r) O<|fI<|gv1 hrg<|hQ _ h))
theorem ku {x:Int} {Q:Int->Prop} (h:fX x Q) (hQ:∀r1,Q r1->R (iZ r1) S) :
  Ctr prog 131 [AV.int .u32 x] S R:=by
 refine au func131 rfl ntmps131 results131 krZ (λrg hrg=>?_)
 refine dA<|asZ (iZ 0) O<|nZ<|jnZ h (λy=>aw [(0,.int .u32 y.1),(2,iZ y.2)]) (λy=>stL S rg []) (λy h=>?_) (λ_ h=>?_)
 ·obtain⟨x1,n⟩:=y
  refine jnZ h (λy=>aw [(0,.int .u32 y.1),(2,iZ y.2)]) (λy=>stL S rg []) (λy h=>?_) (λ_ h=>?_)
  ·obtain⟨x2,n1⟩:=y
   refine wk 5 λh=>?_
   refine tkZ h (λhg h=>wZ rg<|Gf td9 krZ O hg ?_)
   refine wk 2 λh hg1 h=>?_
   exact stZ h (λn2 hs h=>wZ rg<|bT (v:=iZ n2) (by subst hs;rfl)<|fI<|gv1 hrg<|hQ _ h)
  exact wk 9999 trivial
 exact wk 9999 trivial
theorem j_ {x:Int} {Q:Int->Prop} (h:eH x Q) (hQ:∀r1,Q r1->R (iZ r1) S) :
  Ctr prog 132 [AV.int .u32 x] S R:=by
 refine au func132 rfl ntmps132 results132 krZ (λrg hrg=>?_)
 refine wk 7 λh=>?_
 refine am<|clZ O<|ku h λr h=>?_
 refine wk 3 λh hg h=>?_
 exact uZ<|gv1 hrg<|hQ _ h
theorem rW {a:List Int} {n:Int} {Q:List Int->Prop} (h:eF a n Q) (hQ:∀r1,Q r1->R (aE r1) S) :
  Ctr prog 133 [aE a,iZ n] S R:=by
 refine au func133 rfl ntmps133 results133 krZ (λrg hrg=>?_)
 refine wk 9 λh hg h=>?_
 refine tkZ h (λhg1 h=>wZ rg<|fg dz iL gN (enc:=AV.int .u32) (z':=0) dG (kk:=1) O O O hg1 (λg1=>?_))
 refine wk 10 λh=>?_
 refine lpZ h (λy=>aw [(1,iZ n),(5,.sl 1 rg 12 g1 0 y.2.length),(13,aE a),(14,iZ (a.length:Int)),(15,iZ y.1)]) (λy=>stL S rg [(12,.arr 1 (List.map (AV.int .u32) y.2),g1)]) (canon (fZ<|fc (VW.slen lzZ)<|fZ<|fZ<|fZ<|fn)<|sc O<|sn) (λy _ h=>?_)
 obtain⟨x,out⟩:=y
 refine wk 5 λh=>?_
 refine cZ h O (λhb h=>?_) (λhb h=>?_)
 ·refine wk 16 λh hg2 h=>?_
  refine tkZ h (λhg3 h=>am<|wW O O hg3<|stZ h (λy1 hs h=>wZ rg<|bT (v:=.int .u64 y1) (by subst hs;rfl) ?_))
  exact wk 9999 trivial
 refine wk 6 λh=>?_
 exact uZ<|aj (v:=.sl 1 rg 12 g1 0 out.length) O<|aq<|aP (k:=12) (xs:=List.map (AV.int .u32) out) O (v':=aE out) (aL O)<|goZ hrg<|hQ _ h
theorem ra {a:List Int} {n:Int} (q k:Nat) {Q:List Int->Prop} {S:St} {R:AV->St->Prop} (h:eF a n Q) (hQ:∀r1 g,Q r1->R (.sl 1 q k g 0 r1.length) (S.set q k (.arr 1 (List.map (AV.int .u32) r1)) g)) :
  Ctr prog 133 [aE a,iZ n] S R:=by
 unfold eF at h
 refine au func133 rfl ntmps133 results133 krZ (λrg hrg=>?_)
 refine wk 9 λh hg h=>?_
 refine tkZ h (λhg1 h=>wZ rg<|fg dz iL gN (enc:=AV.int .u32) (z':=0) dG (kk:=1) O O O hg1 (λg1=>?_))
 refine wk 10 λh=>?_
 refine lpZ h (λy=>aw [(1,iZ n),(5,.sl 1 rg 12 g1 0 y.2.length),(13,aE a),(14,iZ (a.length:Int)),(15,iZ y.1)]) (λy=>stL S rg [(12,.arr 1 (List.map (AV.int .u32) y.2),g1)]) (canon (fZ<|fc (VW.slen lzZ)<|fZ<|fZ<|fZ<|fn)<|sc O<|sn) (λy _ h=>?_)
 obtain⟨x,out⟩:=y
 refine wk 5 λh=>?_
 refine cZ h O (λhb h=>?_) (λhb h=>?_)
 ·refine wk 16 λh hg2 h=>?_
  refine tkZ h (λhg3 h=>am<|wW O O hg3<|stZ h (λy1 hs h=>wZ rg<|bT (v:=.int .u64 y1) (by subst hs;rfl) ?_))
  exact wk 9999 trivial
 refine wk 6 λh=>?_
 refine uZ<|aj (v:=.sl 1 rg 12 g1 0 out.length) O<|aq ?_
 show cN _ (.sl 1 rg 12 g1 0 out.length) _
 exact xf q k hrg O (λg'=>hQ _ g' h)
theorem cH {a:List Int} {i:Int} {Q:Int->Prop} (h:cB a i Q) (hQ:∀r1,Q r1->R (AV.int .u64 r1) S) :
  Ctr prog 107 [aE a,iZ i] S R:=by
 refine au func107 rfl ntmps107 results107 krZ (λrg hrg=>?_)
 refine wk 12 λh=>?_
 refine cZ h O (λhb h=>?_) (λhb h=>?_)
 ·refine wk 9 λh hg h=>?_
  exact uZ<|gv1 hrg<|hQ _ h
 refine wk 5 λh=>?_
 exact uZ<|gv1 hrg<|hQ _ h
theorem rV {u:List Int} {uo:Nat} {ul:Nat} {v:List Int} {n:Int} {q0 k0 g0:Nat} {Q:List Int->Bool->Prop} (h:lq u uo ul v n Q) (hQ:∀r1 r2,Q r1 r2->R (AV.bool r2) (stX S [(q0,k0,.arr 1 (List.map (AV.int .u32) r1),g0)])) :
  Ctr prog 134 [.sl 1 q0 k0 g0 uo ul,aE v,AV.int .u64 n] (stX S [(q0,k0,.arr 1 (List.map (AV.int .u32) u),g0)]) R:=by
 refine au func134 rfl ntmps134 results134 krZ (λrg hrg=>?_)
 have hdx:DX [(q0,k0,.arr 1 (List.map (AV.int .u32) u),g0)]:=dx1
 have hfr:=λX' e=>bF (S:=S) (rg:=rg) (X:=[(q0,k0,.arr 1 (List.map (AV.int .u32) u),g0)]) (X':=X') e hrg
 have hne0:=ak hdx hrg 0 rfl
 refine wk 17 λh=>?_
 refine lpZ h (λy=>aw [(0,.sl 1 q0 k0 g0 uo ul),(1,aE v),(2,.int .u64 n),(7,.int .u64 y.1),(8,.int .u64 y.2.1),(12,iZ (ul:Int)),(13,iZ y.2.2.1)]) (λy=>stL (stX S [(q0,k0,.arr 1 (List.map (AV.int .u32) y.2.2.2),g0)]) rg []) eCa (λy _ h=>?_)
 obtain⟨carry,borrow,x,u1⟩:=y
 refine wk 5 λh=>?_
 refine cZ h O (λhb h=>?_) (λhb h=>?_)
 ·refine wk 14 λh=>?_
  refine am<|clZ O<|cH h λr h=>?_
  refine wk 2 λh=>?_
  refine stZ h (λcarry1 hs h=>wZ rg<|bT (v:=.int .u64 carry1) (by subst hs;rfl) ?_)
  refine wk 5 λh=>?_
  refine tkZ h (λhi h=>am<|tT dz kT dZ O O hi<|tkZ h (λhg h=>?_))
  refine wk 8 λh=>?_
  refine stZ h (λd hs1 h=>wZ rg<|bT (v:=.int .u64 d) (by subst hs1;rfl) ?_)
  refine wk 7 λh=>?_
  refine tkZ h (λhi1 h=>am<|tT dz kT dZ O O hi1<|tkZ h (λhg1 h=>?_))
  exact wk 9999 trivial
 refine wk 7 λh=>?_
 exact uZ<|gv1 (hfr _ O)<|hQ _ _ h
theorem rX {u:List Int} {uo:Nat} {ul:Nat} {v:List Int} {q0 k0 g0:Nat} {Q:List Int->Prop} (h:lr u uo ul v Q) (hQ:∀r1,Q r1->R (.tuple []) (stX S [(q0,k0,.arr 1 (List.map (AV.int .u32) r1),g0)])) :
  Ctr prog 135 [.sl 1 q0 k0 g0 uo ul,aE v] (stX S [(q0,k0,.arr 1 (List.map (AV.int .u32) u),g0)]) R:=by
 refine au func135 rfl ntmps135 results135 krZ (λrg hrg=>?_)
 have hdx:DX [(q0,k0,.arr 1 (List.map (AV.int .u32) u),g0)]:=dx1
 have hfr:=λX' e=>bF (S:=S) (rg:=rg) (X:=[(q0,k0,.arr 1 (List.map (AV.int .u32) u),g0)]) (X':=X') e hrg
 have hne0:=ak hdx hrg 0 rfl
 refine wk 11 λh=>?_
 refine lpZ h (λy=>aw [(0,.sl 1 q0 k0 g0 uo ul),(1,aE v),(4,.int .u64 y.1),(7,iZ (ul:Int)),(8,iZ y.2.1)]) (λy=>stL (stX S [(q0,k0,.arr 1 (List.map (AV.int .u32) y.2.2),g0)]) rg []) eCa (λy _ h=>?_)
 obtain⟨carry,x,u1⟩:=y
 refine wk 5 λh=>?_
 refine cZ h O (λhb h=>?_) (λhb h=>?_)
 ·refine wk 9 λh=>?_
  refine tkZ h (λhi h=>tkZ h (λhg h=>?_))
  obtain⟨r,hc,h⟩:=h
  refine Vc.drawn' mixed rg (gd [(8,pc (.int .u64 r))]) krZ ?_
  refine wk 3 λh=>?_
  refine dP O O<|tT dz kT dZ O O hi ?_
  refine wk 4 λh=>?_
  refine dC (vs:=[aE v,iZ x]) O (vZ<|vZ<|vn) (λ_=>cH hc (λ_ hr=>⟨by rw[hr],rfl⟩)) O ?_
  refine wk 10 λh=>?_
  refine tkZ h (λhi1 h=>am<|tT dz kT dZ O O hi1<|tkZ h (λhg1 h=>?_))
  refine wk 5 λh=>?_
  refine stZ h (λcarry1 hs h=>wZ rg<|bT (v:=.int .u64 carry1) (by subst hs;rfl) ?_)
  exact wk 9999 trivial
 exact xsZ<|gv0 (hfr _ O)<|hQ _ h
theorem q_ {a:List Int} {n:Int} {Q:List Int->Prop} (h:g_ a n Q) (hQ:∀r1,Q r1->R (aE r1) S) :
  Ctr prog 136 [aE a,iZ n] S R:=by
 refine au func136 rfl ntmps136 results136 krZ (λrg hrg=>?_)
 refine wk 8 λh=>?_
 refine tkZ h (λhg h=>wZ rg<|fg dz iL gN (enc:=AV.int .u32) (z':=0) dG (kk:=1) O O O hg (λg1=>?_))
 refine wk 10 λh=>?_
 refine lpZ h (λy=>aw [(0,aE a),(1,iZ n),(5,.sl 1 rg 9 g1 0 y.2.length),(11,iZ (a.length:Int)),(12,iZ y.1)]) (λy=>stL S rg [(9,.arr 1 (List.map (AV.int .u32) y.2),g1)]) (canon (fZ<|fZ<|fc (VW.slen lzZ)<|fZ<|fZ<|fn)<|sc O<|sn) (λy _ h=>?_)
 obtain⟨x,out⟩:=y
 refine wk 5 λh=>?_
 refine cZ h O (λhb h=>?_) (λhb h=>?_)
 ·refine wk 13 λh=>?_
  refine am<|clZ O<|cH h λr h=>?_
  refine wk 3 λh hg1 h=>?_
  refine am<|clZ O<|cH h λr1 h=>?_
  refine wk 3 λh=>?_
  refine tkZ h (λhg2 h=>am<|uT O O hg2 ?_)
  exact wk 9999 trivial
 refine wk 6 λh=>?_
 exact uZ<|aj (v:=.sl 1 rg 9 g1 0 out.length) O<|aq<|aP (k:=9) (xs:=List.map (AV.int .u32) out) O (v':=aE out) (aL O)<|goZ hrg<|hQ _ h
theorem jZ {a:List Int} {b:List Int} {Q:List Int->List Int->Option Int->Prop} (h:gV a b Q) (hQ:∀r1 r2 r3,Q r1 r2 r3->R (.tuple [aE r1,aE r2,cw 39 r3]) S) :
  Ctr prog 106 [aE a,aE b] S R:=by
 refine au func106 rfl ntmps106 results106 krZ (λrg hrg=>?_)
 refine wk 9 λh=>?_
 refine am<|clZ O<|bo h λa1 h=>mvZ (aE b) O<|am<|clZ O<|bo h λb1 h=>?_
 refine wk 10 λh=>?_
 refine cZ h O (λhb h=>?_) (λhb h=>?_)
 ·refine wk 7 λh=>?_
  exact uZ<|aj (v:=.nil) O<|aj (v:=.nil) O<|aj (v:=.iface 39 (iZ 8)) O<|aq<|ar hrg (VW.tupL<|vl' (VW.nilL)<|vl' (VW.nilL)<|vZ<|vn)<|hQ _ _ _ h
 refine wk 6 λh=>?_
 refine am<|clZ O<|eU h λr h=>am<|wX O O<|nZ<|cZ h O (λhb1 h=>?_) (λhb1 h=>?_)
 ·refine wk 7 λh=>?_
  exact uZ<|aj (v:=.nil) O<|aj (v:=aE a1) O<|aj (v:=.niface) O<|aq<|ar hrg (VW.tupL<|vl' (VW.nilL)<|vZ<|vZ<|vn)<|hQ _ _ _ h
 refine wk 8 λh=>?_
 refine cZ h O (λhb2 h=>?_) (λhb2 h=>?_)
 ·refine wk 6 λh hg h=>?_
  refine am<|clZ O<|l_ h λr1 r2 h=>?_
  refine wk 11 λh=>?_
  refine am<|clZ O<|oG h λr3 h=>?_
  refine wk 4 λh=>?_
  exact uZ<|aj (v:=aE r1) O<|aj (v:=aE r3) O<|aj (v:=.niface) O<|aq<|ar hrg eVw<|hQ _ _ _ h
 refine wk 9 λh hg1 h hg2 h=>?_
 refine am<|clZ O<|j_ h λn h=>?_
 refine wk 6 λh=>?_
 refine am<|clZ O<|rW h λr4 h=>?_
 refine wk 2 λh=>?_
 refine tkZ h (λhg3 h=>am<|mQ dz kT dZ (λ_=>O) O (l:=0) (h:=(b1.length:Int)) O O hg3<|stZ h (λv hs h=>wZ rg<|bT (v:=aE v) (by subst hs;rfl) ?_))
 refine wk 5 λh=>?_
 refine am<|clZ O<|ra rg 61 h λu g1 h=>bL bY ?_
 refine wk 3 λh=>?_
 refine tkZ h (λhg4 h=>tkZ h (λhg5 h=>tkZ h (λhg6 h=>tkZ h (λhg7 h=>Vc.drawn' mixed rg (λ_=>iV) krZ ?_))))
 refine wk 3 λh=>?_
 refine dP O O<|jY O O hg4<|dP O O<|fv dz kT dZ (λ_=>O) O O hg5 ?_
 refine wk 5 λh=>?_
 refine dP O O<|jY O O hg6<|dP O O<|fv dz kT dZ (λ_=>O) O O hg7 ?_
 refine wk 12 λh hg8 h=>?_
 refine tkZ h (λhg9 h=>wZ rg<|fg dz iL gN (enc:=AV.int .u32) (z':=0) dG (kk:=1) O O O hg9 (λg2=>?_))
 refine wk 8 λh hg10 h=>?_
 refine stZ h (λj hs1 h=>wZ rg<|bT (v:=iZ j) (by subst hs1;rfl)<|nZ<|bZ<|lgZ h (g1,g2) (λy=>aw [(4,.sl 1 rg 81 y.2.2 0 y.1.2.2.length),(9,iZ n),(10,aE v),(11,.sl 1 rg 61 y.2.1 0 y.1.2.1.length),(12,.int .u64 (IntKind.wrap .u64<|at' v<|(v.length:Int)-1)),(13,.int .u64 (IntKind.wrap .u64<|at' v<|(v.length:Int)-2)),(14,iZ y.1.1)]) (λy=>stL S rg [(61,.arr 1 (List.map (AV.int .u32) y.1.2.1),y.2.1),(81,.arr 1 (List.map (AV.int .u32) y.1.2.2),y.2.2)]) (canon (fc (VW.slen lzZ)<|gb<|fZ<|fZ<|fn)<|sc O<|sc O<|sn) (λy _ h=>?_))
 obtain⟨⟨j1,u1,q⟩,⟨g3,g4⟩⟩:=y
 refine wk 6 λh=>?_
 refine cZ h O (λhb3 h=>?_) (λhb3 h=>?_)
 ·refine kZ<|qZ<|bZ<|qZ<|tkZ h (λhg11 h=>tkZ h (λhi h=>tkZ h (λhg12 h=>tkZ h (λhg13 h=>tkZ h (λhi1 h=>Vc.drawn' mixed rg (λ_=>iV) krZ ?_)))))
  refine wk 4 λh=>?_
  refine dP O O<|qh O O hg11<|dP O O<|aS dz kT dZ O O hi ?_
  refine wk 7 λh=>?_
  refine dP O O<|qh O O hg12<|dP O O<|jY O O hg13<|dP O O<|aS dz kT dZ O O hi1 ?_
  refine wk 6 λh=>?_
  refine tkZ h (λhg14 h=>tkZ h (λhg15 h=>Vc.drawn' mixed rg (λ_=>iV) krZ ?_))
  refine wk 2 λh=>?_
  refine dP O O<|F9 O O hg14 ?_
  refine wk 2 λh=>?_
  refine dP O O<|F8 O O hg15 ?_
  refine wk 3 λh=>?_
  refine jgZ (γ:=Nat×Nat) h (λy=>aw [(4,.sl 1 rg 81 y.2.2 0 q.length),(9,iZ n),(10,aE v),(11,.sl 1 rg 61 y.2.1 0 u1.length),(12,.int .u64 (IntKind.wrap .u64<|at' v<|(v.length:Int)-1)),(13,.int .u64 (IntKind.wrap .u64<|at' v<|(v.length:Int)-2)),(14,iZ j1),(16,.int .u64 y.1)]) (λy=>stL S rg [(61,.arr 1 (List.map (AV.int .u32) u1),y.2.1),(81,.arr 1 (List.map (AV.int .u32) q),y.2.2)]) (λy h=>?_) (λ_ h=>?_)
  ·obtain⟨guess,⟨g5,g6⟩⟩:=y
   refine jgZ (γ:=Nat×Nat) h (λy=>aw [(4,.sl 1 rg 81 y.2.2 0 q.length),(9,iZ n),(10,aE v),(11,.sl 1 rg 61 y.2.1 0 y.1.2.length),(12,.int .u64 (IntKind.wrap .u64<|at' v<|(v.length:Int)-1)),(13,.int .u64 (IntKind.wrap .u64<|at' v<|(v.length:Int)-2)),(14,iZ j1),(16,.int .u64 y.1.1)]) (λy=>stL S rg [(61,.arr 1 (List.map (AV.int .u32) y.1.2),y.2.1),(81,.arr 1 (List.map (AV.int .u32) q),y.2.2)]) (λy h=>?_) (λ_ h=>?_)
   ·obtain⟨⟨guess1,u2⟩,⟨g7,g8⟩⟩:=y
    exact wk 9999 trivial
   refine wk 9 λh hg17 h hg18 h=>?_
   refine tkZ h (λhsl h=>am<|uS dz kT dZ O (l:=j1) (h:=((j1+(v.length:Int))+1)) O O hsl ?_)
   refine wk 2 λh=>?_
   refine am<|clZ O<|fj (wM<|aZ 61 O)<|rV h λu3 r5 h=>bL bY<|tkZ h (λhl h=>nZ<|cZ h O (λhb4 h=>?_) (λhb4 h=>?_))
   ·refine wk 14 λh hg19 h hg20 h=>?_
    refine tkZ h (λhsl1 h=>am<|uS dz kT dZ O (l:=j1) (h:=((j1+(v.length:Int))+1)) O O hsl1 (mvZ (aE v) O<|am<|clZ O<|fj (wM<|aZ 61 O)<|rX h λu4 h=>bL bY<|tkZ h (λhl1 h=>?_)))
    exact wk 9999 trivial
   exact wk 9999 trivial
  refine bZ<|lgZ h (g3,g4) (λy=>aw [(4,.sl 1 rg 81 y.2.2 0 q.length),(9,iZ n),(10,aE v),(11,.sl 1 rg 61 y.2.1 0 u1.length),(12,.int .u64 (IntKind.wrap .u64<|at' v<|(v.length:Int)-1)),(13,.int .u64 (IntKind.wrap .u64<|at' v<|(v.length:Int)-2)),(14,iZ j1),(16,.int .u64 y.1.1),(17,.int .u64 y.1.2)]) (λy=>stL S rg [(61,.arr 1 (List.map (AV.int .u32) u1),y.2.1),(81,.arr 1 (List.map (AV.int .u32) q),y.2.2)]) eCa (λy _ h=>?_)
  obtain⟨⟨guess2,rest⟩,⟨g9,g10⟩⟩:=y
  refine jgZ (γ:=Nat×Nat) h (λy=>aw [(4,.sl 1 rg 81 y.2.2 0 q.length),(9,iZ n),(10,aE v),(11,.sl 1 rg 61 y.2.1 0 u1.length),(12,.int .u64 (IntKind.wrap .u64<|at' v<|(v.length:Int)-1)),(13,.int .u64 (IntKind.wrap .u64<|at' v<|(v.length:Int)-2)),(14,iZ j1),(16,.int .u64 guess2),(17,.int .u64 rest)]) (λy=>stL S rg [(61,.arr 1 (List.map (AV.int .u32) u1),y.2.1),(81,.arr 1 (List.map (AV.int .u32) q),y.2.2)]) (λy h=>?_) (λ_ h=>?_)
  ·obtain⟨_,⟨g11,g12⟩⟩:=y
   refine wk 12 λh=>?_
   refine stZ h (λrest1 hs2 h=>wZ rg<|bT (v:=.int .u64 rest1) (by subst hs2;rfl) ?_)
   refine wk 6 λh=>?_
   refine cZ h O (λhb5 h=>?_) (λhb5 h=>?_)
   ·refine xnZ O<|zU ?_
    exact wk 9999 trivial
   exact wk 9999 trivial
  refine wk 5 λh=>?_
  refine gfZ h O O (λhb6 h=>?_) (λhb6 h=>?_)
  ·exact wk 9999 trivial
  refine wk 17 λh=>?_
  refine cTZ O O ?_
  exact wk 9999 trivial
 refine wk 4 λh=>?_
 refine dr (aW (k:=81) (xs:=List.map (AV.int .u32) q) O (es:=[(9,iZ n),(11,.sl 1 rg 61 g3 0 u1.length),(169,aE q)]) (fZ<|fc (fT O)<|fc (aL O)<|fn) (m:=[(61,.arr 1 (List.map (AV.int .u32) u1),g3)]) (sc O<|sn)) (am<|clZ O<|bo h λq1 h=>?_)
 refine wk 2 λh=>?_
 refine dr (aW (k:=61) (xs:=List.map (AV.int .u32) u1) O (es:=[(170,aE q1),(171,aE u1),(172,iZ n)]) (fZ<|fc (aL O)<|fZ<|fn) (m:=[]) (sn)) (am<|clZ O<|q_ h λr6 h=>am<|clZ O<|bo h λr7 h=>?_)
 refine wk 4 λh=>?_
 exact uZ<|aj (v:=aE q1) O<|aj (v:=aE r7) O<|aj (v:=.niface) O<|aq<|ar hrg eVw<|hQ _ _ _ h
theorem n_ {a:List Int} {b:List Int} {Q:List Int->Prop} (h:jx a b Q) (hQ:∀r1,Q r1->R (aE r1) S) :
  Ctr prog 104 [aE a,aE b] S R:=by
 refine au func104 rfl ntmps104 results104 krZ (λrg hrg=>?_)
 refine wk 7 λh=>?_
 refine am<|clZ O<|bo h λa1 h=>mvZ (aE b) O<|am<|clZ O<|bo h λb1 h=>?_
 refine wk 5 λh=>?_
 refine lpZ h (λy=>aw [(0,aE y.1),(1,aE y.2)]) (λy=>stL S rg []) eCa (λy _ h=>?_)
 obtain⟨a2,b2⟩:=y
 refine wk 7 λh=>?_
 refine cZ h O (λhb h=>?_) (λhb h=>?_)
 ·refine wk 6 λh=>?_
  refine am<|clZ O<|jZ h λr r1 r2 h=>?_
  exact wk 9999 trivial
 refine wk 6 λh=>?_
 exact uZ<|gv1 hrg<|hQ _ h
theorem rY {a:List Int} {Q:Int->Prop} (h:lw a Q) (hQ:∀r1,Q r1->R (iZ r1) S) :
  Ctr prog 105 [aE a] S R:=by
 refine au func105 rfl ntmps105 results105 krZ (λrg hrg=>?_)
 refine wk 13 λh hg h=>?_
 refine lpZ h (λy=>aw [(0,aE a),(3,iZ y)]) (λy=>stL S rg []) eCa (λi _ h=>?_)
 refine wk 6 λh=>?_
 refine cZ h O (λhb h=>?_) (λhb h=>?_)
 ·refine wk 11 λh hg1 h=>?_
  refine cZ h O (λhb1 h=>?_) (λhb1 h=>?_)
  ·refine wk 8 λh hg2 h hg3 h=>?_
   refine am<|clZ O<|ku h λr h=>?_
   refine wk 3 λh hg4 h=>?_
   exact uZ<|gv1 hrg<|hQ _ h
  exact wk 9999 trivial
 refine wk 5 λh=>?_
 exact uZ<|gv1 hrg<|hQ _ h
theorem dO {a:List Int} {b:List Int} {Q:List Int->Prop} (h:cO a b Q) (hQ:∀r1,Q r1->R (aE r1) S) :
  Ctr prog 58 [aE a,aE b] S R:=by
 refine au func58 rfl ntmps58 results58 krZ (λrg hrg=>?_)
 refine wk 11 λh hg h=>?_
 refine tkZ h (λhg1 h=>wZ rg<|fg dz iL gN (enc:=AV.int .u32) (z':=0) dG (kk:=1) O O O hg1 (λg1=>?_))
 refine wk 10 λh=>?_
 refine lpZ h (λy=>aw [(1,aE b),(5,.sl 1 rg 16 g1 0 y.2.length),(17,aE a),(18,iZ (a.length:Int)),(19,iZ y.1)]) (λy=>stL S rg [(16,.arr 1 (List.map (AV.int .u32) y.2),g1)]) (canon (fZ<|fc (VW.slen lzZ)<|fZ<|fZ<|fZ<|fn)<|sc O<|sn) (λy _ h=>?_)
 obtain⟨x,out⟩:=y
 refine wk 5 λh=>?_
 refine cZ h O (λhb h=>?_) (λhb h=>?_)
 ·refine wk 23 λh hg2 h=>?_
  refine lpZ h (λy=>aw [(1,aE b),(5,.sl 1 rg 16 g1 0 y.2.2.length),(6,iZ x),(7,.int .u32 (at' a x)),(8,.int .u64 y.1),(17,aE a),(18,iZ (a.length:Int)),(19,iZ x),(24,aE b),(25,iZ (b.length:Int)),(26,iZ y.2.1)]) (λy=>stL S rg [(16,.arr 1 (List.map (AV.int .u32) y.2.2),g1)]) eCa (λy _ h=>?_)
  obtain⟨carry,x1,out1⟩:=y
  refine wk 5 λh=>?_
  refine cZ h O (λhb1 h=>?_) (λhb1 h=>?_)
  ·refine wk 28 λh hg3 h hg4 h hi h=>?_
   refine stZ h (λcarry1 hs h=>wZ rg<|bT (v:=.int .u64 carry1) (by subst hs;rfl) ?_)
   exact wk 9999 trivial
  exact wk 9999 trivial
 refine wk 4 λh=>?_
 exact dr (aW (k:=16) (xs:=List.map (AV.int .u32) out) O (es:=[(65,aE out)]) (fc (aL O)<|fn) (m:=[])<|sn)<|am<|clZ O<|bo h λr h=>asZ (aE r) O<|fI<|gv1 hrg<|hQ _ h
theorem tF {a:List Int} {b:List Int} {Q:List Int->Prop} (h:jy a b Q) (hQ:∀r1,Q r1->R (aE r1) S) :
  Ctr prog 59 [aE a,aE b] S R:=by
 refine au func59 rfl ntmps59 results59 krZ (λrg hrg=>?_)
 refine wk 12 λh hg h=>?_
 refine tkZ h (λhg1 h=>wZ rg<|fg dz iL gN (enc:=AV.int .u32) (z':=0) dG (kk:=1) O O O hg1 (λg1=>?_))
 refine wk 14 λh=>?_
 refine lpZ h (λy=>aw [(0,aE a),(1,aE b),(5,.sl 1 rg 14 g1 0 y.2.2.length),(6,.int .u64 y.1),(16,iZ ((Int.toNat<|(max (a.length:Int) (b.length:Int))+1):Int)),(17,iZ y.2.1)]) (λy=>stL S rg [(14,.arr 1 (List.map (AV.int .u32) y.2.2),g1)]) (canon (fZ<|fZ<|fc (VW.slen lzZ)<|fZ<|fZ<|fZ<|fn)<|sc O<|sn) (λy _ h=>?_)
 obtain⟨carry,x,out⟩:=y
 refine wk 5 λh=>?_
 refine cZ h O (λhb h=>?_) (λhb h=>?_)
 ·refine wk 13 λh=>?_
  refine am<|clZ O<|cH h λr h=>?_
  refine wk 2 λh=>?_
  refine am<|clZ O<|cH h λr1 h=>?_
  refine wk 2 λh=>?_
  refine stZ h (λcarry1 hs h=>wZ rg<|bT (v:=.int .u64 carry1) (by subst hs;rfl) ?_)
  exact wk 9999 trivial
 refine wk 4 λh=>?_
 exact dr (aW (k:=14) (xs:=List.map (AV.int .u32) out) O (es:=[(37,aE out)]) (fc (aL O)<|fn) (m:=[])<|sn)<|am<|clZ O<|bo h λr2 h=>asZ (aE r2) O<|fI<|gv1 hrg<|hQ _ h
theorem nY {a:List Int} {b:List Int} {Q:List Int->Option Int->Prop} (h:jw a b Q) (hQ:∀r1 r2,Q r1 r2->R (.tuple [aE r1,cw 39 r2]) S) :
  Ctr prog 60 [aE a,aE b] S R:=by
 refine au func60 rfl ntmps60 results60 krZ (λrg hrg=>?_)
 refine wk 10 λh=>?_
 refine am<|clZ O<|eU h λr h=>am<|wX O O<|nZ<|cZ h O (λhb h=>?_) (λhb h=>?_)
 ·refine wk 6 λh=>?_
  exact uZ<|aj (v:=.nil) O<|aj (v:=.iface 39 (iZ 3)) O<|aq<|ar hrg (VW.tupL<|vl' (VW.nilL)<|vZ<|vn)<|hQ _ _ h
 refine wk 5 λh=>?_
 refine tkZ h (λhg h=>wZ rg<|fg dz iL gN (enc:=AV.int .u32) (z':=0) dG (kk:=1) O O O hg (λg1=>?_))
 refine wk 14 λh=>?_
 refine lpZ h (λy=>aw [(0,aE a),(1,aE b),(6,.sl 1 rg 17 g1 0 y.2.2.length),(7,.int .u64 y.1),(19,iZ ((Int.toNat (a.length:Int)):Int)),(20,iZ y.2.1)]) (λy=>stL S rg [(17,.arr 1 (List.map (AV.int .u32) y.2.2),g1)]) (canon (fZ<|fZ<|fc (VW.slen lzZ)<|fZ<|fZ<|fZ<|fn)<|sc O<|sn) (λy _ h=>?_)
 obtain⟨borrow,x,out⟩:=y
 refine wk 5 λh=>?_
 refine cZ h O (λhb1 h=>?_) (λhb1 h=>?_)
 ·refine wk 12 λh=>?_
  refine am<|clZ O<|cH h λr1 h=>?_
  refine wk 2 λh=>?_
  refine am<|clZ O<|cH h λr2 h=>?_
  refine wk 3 λh=>?_
  refine stZ h (λd hs h=>wZ rg<|bT (v:=.int .u64 d) (by subst hs;rfl) ?_)
  exact wk 9999 trivial
 refine wk 4 λh=>?_
 refine dr (aW (k:=17) (xs:=List.map (AV.int .u32) out) O (es:=[(40,aE out)]) (fc (aL O)<|fn) (m:=[])<|sn)<|am<|clZ O<|bo h λr3 h=>?_
 refine wk 3 λh=>?_
 exact uZ<|aj (v:=aE r3) O<|aj (v:=.niface) O<|aq<|ar hrg eVw<|hQ _ _ h
theorem k_ {a:List Int} {Q:Int->Prop} (h:iA a Q) (hQ:∀r1,Q r1->R (iZ r1) S) :
  Ctr prog 22 [aE a] S R:=by
 refine au func22 rfl ntmps22 results22 krZ (λrg hrg=>?_)
 refine wk 16 λh=>?_
 refine lpZ h (λy=>aw [(3,iZ y.1),(7,aE a),(8,iZ (a.length:Int)),(9,iZ y.2)]) (λy=>stL S rg []) eCa (λy _ h=>?_)
 obtain⟨n,x⟩:=y
 refine wk 5 λh=>?_
 refine cZ h O (λhb h=>?_) (λhb h=>?_)
 ·refine wk 16 λh hg h=>?_
  refine lpZ h (λy=>aw [(3,iZ y.1),(4,iZ x),(5,.int .u32 (at' a x)),(7,aE a),(8,iZ (a.length:Int)),(9,iZ x),(14,iZ y.2)]) (λy=>stL S rg []) eCa (λy _ h=>?_)
  obtain⟨n1,x1⟩:=y
  refine wk 5 λh=>?_
  refine cZ h O (λhb1 h=>?_) (λhb1 h=>?_)
  ·refine wk 12 λh=>?_
   refine tkZ h (λhg1 h=>am<|uT O O hg1 ?_)
   refine wk 3 λh=>?_
   refine cZ h O (λhb2 h=>?_) (λhb2 h=>?_)
   ·exact wk 9999 trivial
   exact wk 9999 trivial
  exact wk 9999 trivial
 refine wk 6 λh=>?_
 exact uZ<|gv1 hrg<|hQ _ h
theorem cP {a:List Int} {Q:List Int->Prop} (h:cQ a Q) (hQ:∀r1,Q r1->R (aE r1) S) :
  Ctr prog 54 [aE a] S R:=by
 refine au func54 rfl ntmps54 results54 krZ (λrg hrg=>?_)
 refine wk 10 λh=>?_
 refine jnZ h (λy=>aw [(0,aE a),(3,iZ y)]) (λy=>stL S rg []) (λn h=>?_) (λ_ h=>?_)
 ·refine dA<|wZ rg<|aV dz gN dG (es:=[]) O (kk:=1) O O O O O O (λg1=>?_)
  refine wk 2 λh=>?_
  refine tkZ h (λhg h=>am<|mQ dz kT dZ (λ_=>O) O (l:=0) (h:=n) O O hg<|tkZ h (λhg1 h=>wZ rg<|cu dz iL gN dG (es:=([]:List Int)) (xs:=(fe a 0 n)) (enc:=AV.int .u32) (aZ 18 O) lzZ (O) (kk:=1) O O (λ_=>O) (λ_=>O) hg1 O (λ_=>bY) (λg2=>?_)))
  refine wk 2 λh=>?_
  exact uZ<|aj (v:=.sl 1 rg 18 g2 0 ((([]:List Int)++(fe a 0 n)).length)) O (aq<|aP (k:=18) (xs:=List.map (AV.int .u32) (([]:List Int)++(fe a 0 n))) O (v':=aE (([]:List Int)++(fe a 0 n))) (aL O) (goZ hrg<|hQ _ h))
 refine bZ<|lpZ h (λy=>aw [(0,aE a),(3,iZ y)]) (λy=>stL S rg []) eCa (λn1 _ h=>?_)
 refine wk 6 λh=>?_
 refine gtZ h O O (λhb h=>?_) (λhb h=>?_)
 ·exact wk 9999 trivial
 refine wk 7 λh=>?_
 refine cFZ O O ?_
 exact wk 9999 trivial
theorem qP {a:List Int} {s:Int} {Q:List Int->Prop} (h:nB a s Q) (hQ:∀r1,Q r1->R (aE r1) S) :
  Ctr prog 97 [aE a,iZ s] S R:=by
 refine au func97 rfl ntmps97 results97 krZ (λrg hrg=>?_)
 refine wk 20 λh=>?_
 refine Vc.mat 5 25 1 O dZ (λg1=>lgZ h g1 (λy=>aw [(1,iZ s),(5,.sl 1 rg 25 y.2 0 y.1.2.2.length),(6,.int .u64 y.1.1),(9,aE a),(10,iZ (a.length:Int)),(11,iZ y.1.2.1)]) (λy=>stL S rg [(25,.arr 1 (List.map (AV.int .u32) y.1.2.2),y.2)]) (canon (fZ<|fc (VW.slen lzZ)<|gb<|fn)<|sc O<|sn) (λy _ h=>?_))
 obtain⟨⟨carry,x,out⟩,g2⟩:=y
 refine wk 5 λh=>?_
 refine cZ h O (λhb h=>?_) (λhb h=>?_)
 ·refine wk 15 λh hg h=>?_
  refine tkZ h (λhg1 h=>am<|wW O O hg1<|am<|YC O O<|stZ h (λcarry1 hs h=>wZ rg<|bT (v:=.int .u64 carry1) (by subst hs;rfl) ?_))
  refine wk 6 λh=>?_
  refine wZ rg<|aV dz gN dG (es:=[.int .u32 (IntKind.wrap .u32 carry1)]) O (kk:=1) O O O O O O (λg3=>tkZ h (λhg2 h=>wZ rg<|cu dz iL gN dG (es:=out) (xs:=[(IntKind.wrap .u32 carry1)]) (enc:=AV.int .u32) (aZ 25 O) lzZ (bi (aZ 24 O) lzZ) (kk:=1) O O (λ_=>O) (λ_=>O) hg2 O (λ_=>bY) (λg4=>?_)))
  exact wk 9999 trivial
 refine wk 6 λh=>?_
 exact wZ rg<|aV dz gN dG (es:=[.int .u32 (IntKind.wrap .u32 carry)]) O (kk:=1) O O O O O O (λg5=>tkZ h (λhg4 h=>wZ rg<|cu dz iL gN dG (es:=out) (xs:=[(IntKind.wrap .u32 carry)]) (enc:=AV.int .u32) (aZ 25 O) lzZ (bi (aZ 32 O) lzZ) (kk:=1) O O (λ_=>O) (λ_=>O) hg4 O (λ_=>bY) (λg6=>dr (aW (k:=25) (xs:=List.map (AV.int .u32) (out++[(IntKind.wrap .u32 carry)])) O (es:=[(33,aE (out++[(IntKind.wrap .u32 carry)]))]) (fc (aL O)<|fn) (m:=[]) (sn)) (am<|clZ O<|cP h λr h=>asZ (aE r) O<|fI<|gv1 hrg<|hQ _ h))))
theorem bS {a:List Int} {i:Int} {Q:Int->Prop} (h:ca a i Q) (hQ:∀r1,Q r1->R (AV.int .u64 r1) S) :
  Ctr prog 98 [aE a,iZ i] S R:=by
 refine au func98 rfl ntmps98 results98 krZ (λrg hrg=>?_)
 refine wk 12 λh=>?_
 refine cZ h O (λhb h=>?_) (λhb h=>?_)
 ·refine wk 9 λh hg h=>?_
  exact uZ<|gv1 hrg<|hQ _ h
 refine wk 5 λh=>?_
 exact uZ<|gv1 hrg<|hQ _ h
theorem wu {a:List Int} {b:List Int} {Q:List Int->Prop} (h:lV a b Q) (hQ:∀r1,Q r1->R (aE r1) S) :
  Ctr prog 99 [aE a,aE b] S R:=by
 refine au func99 rfl ntmps99 results99 krZ (λrg hrg=>?_)
 refine wk 12 λh hg h hg1 h=>?_
 refine tkZ h (λhg2 h=>wZ rg<|fg dz iL gN (enc:=AV.int .u32) (z':=0) dG (kk:=1) O O O hg2 (λg1=>?_))
 refine wk 10 λh=>?_
 refine lpZ h (λy=>aw [(1,aE b),(5,.sl 1 rg 17 g1 0 y.2.length),(18,aE a),(19,iZ (a.length:Int)),(20,iZ y.1)]) (λy=>stL S rg [(17,.arr 1 (List.map (AV.int .u32) y.2),g1)]) (canon (fZ<|fc (VW.slen lzZ)<|fZ<|fZ<|fZ<|fn)<|sc O<|sn) (λy _ h=>?_)
 obtain⟨x,out⟩:=y
 refine wk 5 λh=>?_
 refine cZ h O (λhb h=>?_) (λhb h=>?_)
 ·refine wk 23 λh hg3 h hg4 h=>?_
  refine lpZ h (λy=>aw [(1,aE b),(5,.sl 1 rg 17 g1 0 y.2.2.length),(6,iZ x),(7,.int .u32 (at' a x)),(8,.int .u64 y.1),(18,aE a),(19,iZ (a.length:Int)),(20,iZ x),(27,iZ ((b.length:Int)+1)),(28,iZ y.2.1)]) (λy=>stL S rg [(17,.arr 1 (List.map (AV.int .u32) y.2.2),g1)]) eCa (λy _ h=>?_)
  obtain⟨carry,x1,out1⟩:=y
  refine wk 5 λh=>?_
  refine cZ h O (λhb1 h=>?_) (λhb1 h=>?_)
  ·refine wk 9 λh=>?_
   obtain⟨r,hc,h⟩:=h
   refine tkZ h (λhg5 h=>tkZ h (λhi h=>Vc.drawn' mixed rg (gd [(4,pc (.int .u64 r))]) krZ ?_))
   refine wk 4 λh=>?_
   refine dC (vs:=[aE b,iZ x1]) O (vZ<|vZ<|vn) (λ_=>bS hc (λ_ hr=>⟨by rw[hr],rfl⟩)) O ?_
   refine wk 4 λh=>?_
   refine dP O O<|qh O O hg5<|dP O O<|aS dz kT dZ O O hi ?_
   refine wk 21 λh hg6 h hi1 h=>?_
   refine stZ h (λcarry1 hs h=>wZ rg<|bT (v:=.int .u64 carry1) (by subst hs;rfl) ?_)
   exact wk 9999 trivial
  exact wk 9999 trivial
 refine wk 4 λh=>?_
 exact dr (aW (k:=17) (xs:=List.map (AV.int .u32) out) O (es:=[(58,aE out)]) (fc (aL O)<|fn) (m:=[])<|sn)<|am<|clZ O<|cP h λr1 h=>asZ (aE r1) O<|fI<|gv1 hrg<|hQ _ h
theorem pK {a:List Int} {b:List Int} {Q:Int->Prop} (h:jK a b Q) (hQ:∀r1,Q r1->R (iZ r1) S) :
  Ctr prog 100 [aE a,aE b] S R:=by
 refine au func100 rfl ntmps100 results100 krZ (λrg hrg=>?_)
 refine wk 13 λh hg h=>?_
 refine stZ h (λi hs h=>wZ rg<|bT (v:=iZ i) (by subst hs;rfl)<|nZ<|bZ<|lpZ h (λy=>aw [(0,aE a),(1,aE b),(5,iZ y)]) (λy=>stL S rg []) eCa (λi1 _ h=>?_))
 refine wk 6 λh=>?_
 refine cZ h O (λhb h=>?_) (λhb h=>?_)
 ·refine wk 8 λh=>?_
  refine am<|clZ O<|bS h λr h=>?_
  refine wk 2 λh=>?_
  refine am<|clZ O<|bS h λr1 h=>am<|wX O O<|nZ<|cZ h O (λhb1 h=>?_) (λhb1 h=>?_)
  ·refine wk 4 λh=>?_
   exact uZ<|gv1 hrg<|hQ _ h
  refine wk 5 λh=>?_
  refine am<|clZ O<|bS h λr2 h=>?_
  refine wk 2 λh=>?_
  refine am<|clZ O<|bS h λr3 h=>am<|Gi O O<|nZ<|cZ h O (λhb2 h=>?_) (λhb2 h=>?_)
  ·exact dA<|asZ (iZ 1) O<|fI<|gv1 hrg<|hQ _ h
  exact wk 9999 trivial
 refine wk 5 λh=>?_
 exact uZ<|gv1 hrg<|hQ _ h
theorem pI {a:List Int} {b:List Int} {Q:List Int->Int->Prop} (h:lU a b Q) (hQ:∀r1 r2,Q r1 r2->R (.tuple [aE r1,iZ r2]) S) :
  Ctr prog 101 [aE a,aE b] S R:=by
 refine au func101 rfl ntmps101 results101 krZ (λrg hrg=>?_)
 refine wk 10 λh=>?_
 refine am<|clZ O<|pK h λr h=>am<|wX O O<|nZ<|cZ h O (λhb h=>?_) (λhb h=>?_)
 ·refine wk 5 λh=>?_
  exact uZ<|aj (v:=.nil) O<|aj (v:=iZ 3) O<|aq<|ar hrg (VW.tupL<|vl' (VW.nilL)<|vZ<|vn)<|hQ _ _ h
 refine wk 17 λh=>?_
 refine Vc.mat 6 32 1 O dZ (λg1=>lgZ h g1 (λy=>aw [(0,aE a),(1,aE b),(6,.sl 1 rg 32 y.2 0 y.1.2.2.length),(7,.int .u64 y.1.1),(15,iZ (a.length:Int)),(16,iZ y.1.2.1)]) (λy=>stL S rg [(32,.arr 1 (List.map (AV.int .u32) y.1.2.2),y.2)]) (canon (fZ<|fZ<|fc (VW.slen lzZ)<|fZ<|fZ<|fZ<|fn)<|sc O<|sn) (λy _ h=>?_))
 obtain⟨⟨borrow,x,out⟩,g2⟩:=y
 refine wk 5 λh=>?_
 refine cZ h O (λhb1 h=>?_) (λhb1 h=>?_)
 ·refine wk 12 λh=>?_
  refine am<|clZ O<|bS h λr1 h=>?_
  refine wk 2 λh=>?_
  refine am<|clZ O<|bS h λr2 h=>?_
  refine wk 3 λh=>?_
  refine stZ h (λs hs h=>wZ rg<|bT (v:=.int .u64 s) (by subst hs;rfl) ?_)
  refine wk 6 λh=>?_
  refine wZ rg<|aV dz gN dG (es:=[.int .u32 (IntKind.wrap .u32 s)]) O (kk:=1) O O O O O O (λg3=>tkZ h (λhg h=>wZ rg<|cu dz iL gN dG (es:=out) (xs:=[(IntKind.wrap .u32 s)]) (enc:=AV.int .u32) (aZ 32 O) lzZ (bi (aZ 31 O) lzZ) (kk:=1) O O (λ_=>O) (λ_=>O) hg O (λ_=>bY) (λg4=>?_)))
  exact wk 9999 trivial
 refine wk 4 λh=>?_
 refine dr (aW (k:=32) (xs:=List.map (AV.int .u32) out) O (es:=[(36,aE out)]) (fc (aL O)<|fn) (m:=[])<|sn)<|am<|clZ O<|cP h λr3 h=>?_
 refine wk 3 λh=>?_
 exact uZ<|aj (v:=aE r3) O<|aj (v:=iZ 0) O<|aq<|ar hrg eVw<|hQ _ _ h
theorem uE {a:List Int} {s:Int} {Q:List Int->Prop} (h:ky a s Q) (hQ:∀r1,Q r1->R (aE r1) S) :
  Ctr prog 102 [aE a,iZ s] S R:=by
 refine au func102 rfl ntmps102 results102 krZ (λrg hrg=>?_)
 refine wk 16 λh=>?_
 refine Vc.mat 5 26 1 O dZ (λg1=>lgZ h g1 (λy=>aw [(0,aE a),(1,iZ s),(5,.sl 1 rg 26 y.2 0 y.1.2.length),(8,iZ (a.length:Int)),(9,iZ y.1.1)]) (λy=>stL S rg [(26,.arr 1 (List.map (AV.int .u32) y.1.2),y.2)]) (canon (fZ<|fZ<|fc (VW.slen lzZ)<|fZ<|fZ<|fn)<|sc O<|sn) (λy _ h=>?_))
 obtain⟨⟨x,out⟩,g2⟩:=y
 refine wk 5 λh=>?_
 refine cZ h O (λhb h=>?_) (λhb h=>?_)
 ·refine wk 12 λh=>?_
  refine am<|clZ O<|bS h λr h=>?_
  refine wk 3 λh hg h=>?_
  refine am<|clZ O<|bS h λr1 h=>?_
  refine wk 3 λh=>?_
  refine tkZ h (λhg1 h=>am<|uT O O hg1 ?_)
  refine wk 1 λh=>?_
  refine wZ rg<|aV dz gN dG (es:=[.int .u32 (IntKind.wrap .u32<|(bits .or .u64 r<|IntKind.wrap .u64<|r1*2^(Int.toNat 32)) / 2^(Int.toNat s))]) O (kk:=1) O O O O O O (λg3=>tkZ h (λhg2 h=>wZ rg<|cu dz iL gN dG (es:=out) (xs:=[(IntKind.wrap .u32<|(bits .or .u64 r<|IntKind.wrap .u64<|r1*2^(Int.toNat 32)) / 2^(Int.toNat s))]) (enc:=AV.int .u32) (aZ 26 O) lzZ (bi (aZ 25 O) lzZ) (kk:=1) O O (λ_=>O) (λ_=>O) hg2 O (λ_=>bY) (λg4=>?_)))
  exact wk 9999 trivial
 refine wk 4 λh=>?_
 exact dr (aW (k:=26) (xs:=List.map (AV.int .u32) out) O (es:=[(28,aE out)]) (fc (aL O)<|fn) (m:=[])<|sn)<|am<|clZ O<|cP h λr2 h=>asZ (aE r2) O<|fI<|gv1 hrg<|hQ _ h
theorem mw {a:List Int} {b:List Int} {Q:List Int->List Int->Int->Prop} (h:jJ a b Q) (hQ:∀r1 r2 r3,Q r1 r2 r3->R (.tuple [aE r1,aE r2,iZ r3]) S) :
  Ctr prog 55 [aE a,aE b] S R:=by
 refine au func55 rfl ntmps55 results55 krZ (λrg hrg=>?_)
 refine wk 9 λh=>?_
 refine am<|clZ O<|cP h λb1 h=>?_
 refine wk 14 λh=>?_
 refine cZ h O (λhb h=>?_) (λhb h=>?_)
 ·refine wk 6 λh=>?_
  exact uZ<|aj (v:=.nil) O<|aj (v:=.nil) O<|aj (v:=iZ 8) O<|aq<|ar hrg (VW.tupL<|vl' (VW.nilL)<|vl' (VW.nilL)<|vZ<|vn)<|hQ _ _ _ h
 refine wk 7 λh=>?_
 refine lpZ h (λy=>aw [(0,aE a),(1,aE b1),(7,iZ (b1.length:Int)),(8,iZ y)]) (λy=>stL S rg []) eCa (λs _ h=>?_)
 refine wk 9 λh hg h hg1 h=>?_
 refine tkZ h (λhg2 h=>am<|wW O O hg2 ?_)
 refine wk 3 λh=>?_
 refine cZ h O (λhb1 h=>?_) (λhb1 h=>?_)
 ·exact wk 9999 trivial
 refine wk 5 λh=>?_
 refine am<|clZ O<|qP h λa1 h=>?_
 refine wk 2 λh=>?_
 refine am<|clZ O<|qP h λb2 h=>?_
 refine wk 4 λh=>?_
 refine tkZ h (λhg4 h=>tkZ h (λhg5 h=>tkZ h (λhg6 h=>tkZ h (λhg7 h=>tkZ h (λhg8 h=>Vc.drawn' mixed rg (λ_=>iV) krZ ?_)))))
 refine wk 2 λh=>?_
 refine dL (E:=([],[(rg,39)])) O O zSm eCf (fg dz iL gN (enc:=AV.int .u32) (z':=0) dG (kk:=1) O O O hg4 (λg1=>dL (E:=([],[(rg,40)])) O O zSm (cfa zAp eCf) (aV dz gN dG (es:=[]) O (kk:=1) O O O O O O (λg2=>?_))))
 refine wk 4 λh=>?_
 refine dP O O<|jY O O hg5<|dP O O<|qh O O hg6<|dP O O<|Gc O O<|dP O O<|mQ dz kT dZ (λ_=>O) O (l:=(max 0<|((a1.length:Int)-(b1.length:Int))+1)) (h:=(a1.length:Int)) O O hg7 (dL (E:=([],[(rg,40)])) O O zSm (cfo krZ<|cfa zAp eCf) (cu dz iL gN dG (es:=([]:List Int)) (xs:=(fe a1 (max 0<|((a1.length:Int)-(b1.length:Int))+1) (a1.length:Int))) (enc:=AV.int .u32) (aZ 40 O) lzZ (O) (kk:=1) O O (λ_=>O) (λ_=>O) hg8 O (λ_=>bY) (λg3=>?_)))
 refine wk 13 λh hg9 h=>?_
 refine oV (aW (k:=40) (xs:=List.map (AV.int .u32) (([]:List Int)++(fe a1 (max 0<|((a1.length:Int)-(b1.length:Int))+1) (a1.length:Int)))) O (es:=[(0,aE a1),(1,aE b2),(7,iZ (b1.length:Int)),(8,iZ s),(9,.sl 1 rg 39 g1 0 (Int.toNat (a1.length:Int))),(10,aE (([]:List Int)++(fe a1 (max 0<|((a1.length:Int)-(b1.length:Int))+1) (a1.length:Int)))),(11,iZ ((a1.length:Int)-(b1.length:Int)))]) (gb<|fc (fT O)<|fc (aL O)<|fZ<|fn) (m:=[(39,.arr 1 (List.map (AV.int .u32)<|aQ (a1.length:Int) 0),g1)]) (sc O<|sn)) (lpZ h (λy=>aw [(0,aE a1),(1,aE b2),(7,iZ (b1.length:Int)),(8,iZ s),(9,.sl 1 rg 39 g1 0 y.2.2.length),(10,aE y.1),(11,iZ y.2.1)]) (λy=>stL S rg [(39,.arr 1 (List.map (AV.int .u32) y.2.2),g1)]) (canon (gb<|fc (VW.slen lzZ)<|fZ<|fZ<|fn)<|sc O<|sn) (λy _ h=>?_))
 obtain⟨r,i,q⟩:=y
 refine wk 6 λh=>?_
 refine cZ h O (λhb2 h=>?_) (λhb2 h=>?_)
 ·refine wk 9 λh hg10 h=>?_
  refine wZ rg<|aV dz gN dG (es:=[.int .u32 (at' a1 i)]) O (kk:=1) O O O O O O (λg4=>mvZ (aE r) O<|tkZ h (λhg11 h=>wZ rg<|cu dz iL gN dG (es:=[(at' a1 i)]) (xs:=r) (enc:=AV.int .u32) (aZ 62 O) lzZ (O) (kk:=1) O O (λ_=>O) (λ_=>O) hg11 O (λ_=>bY) (λg5=>dr (aW (k:=62) (xs:=List.map (AV.int .u32) ([(at' a1 i)]++r)) O (es:=[(0,aE a1),(1,aE b2),(7,iZ (b1.length:Int)),(8,iZ s),(9,.sl 1 rg 39 g1 0 q.length),(11,iZ i),(64,aE ([(at' a1 i)]++r))]) (gb<|fc (fT O)<|fZ<|fc (aL O)<|fn) (m:=[(39,.arr 1 (List.map (AV.int .u32) q),g1)]) (sc O<|sn)) (am<|clZ O<|cP h λr1 h=>?_))))
  refine wk 6 λh=>?_
  refine am<|clZ O<|bS h λr2 h=>?_
  refine wk 4 λh hg12 h=>?_
  refine am<|clZ O<|bS h λr3 h=>?_
  refine wk 4 λh hg13 h=>?_
  refine am<|clZ O<|bS h λr4 h=>tkZ h (λhg14 h=>am<|F9 O O hg14<|am<|Ps O O<|stZ h (λguess hs h=>wZ rg<|bT (v:=.int .u64 guess) (by subst hs;rfl) ?_))
  refine wk 6 λh=>?_
  refine wZ rg<|aV dz gN dG (es:=[.int .u32 (IntKind.wrap .u32 guess)]) O (kk:=1) O O O O O O (λg6=>dr (aW (k:=84) (xs:=List.map (AV.int .u32) [(IntKind.wrap .u32 guess)]) O (es:=[(0,aE a1),(1,aE b2),(7,iZ (b1.length:Int)),(8,iZ s),(9,.sl 1 rg 39 g1 0 q.length),(10,aE r1),(11,iZ i),(12,.int .u64 guess),(81,aE b2),(84,aE [(IntKind.wrap .u32 guess)])]) (gb<|fc (fT O)<|gb<|fc (aL O)<|fn) (m:=[(39,.arr 1 (List.map (AV.int .u32) q),g1)]) (sc O<|sn)) (am<|clZ O<|wu h λp h=>?_))
  refine wk 4 λh=>?_
  refine lpZ h (λy=>aw [(0,aE a1),(1,aE b2),(7,iZ (b1.length:Int)),(8,iZ s),(9,.sl 1 rg 39 g1 0 q.length),(10,aE r1),(11,iZ i),(12,.int .u64 y.1),(13,aE y.2)]) (λy=>stL S rg [(39,.arr 1 (List.map (AV.int .u32) q),g1)]) eCa (λy _ h=>?_)
  obtain⟨guess1,p1⟩:=y
  refine wk 5 λh=>?_
  refine am<|clZ O<|pK h λr5 h=>am<|Gi O O<|nZ<|cZ h O (λhb3 h=>?_) (λhb3 h=>?_)
  ·refine wk 11 λh=>?_
   refine am<|clZ O<|pI h λr6 r7 h=>?_
   exact wk 9999 trivial
  refine wk 5 λh=>?_
  refine am<|clZ O<|pI h λr8 r9 h=>?_
  exact wk 9999 trivial
 refine wk 4 λh=>?_
 refine dr (aW (k:=39) (xs:=List.map (AV.int .u32) q) O (es:=[(8,iZ s),(10,aE r),(109,aE q)]) (fZ<|fZ<|fc (aL O)<|fn) (m:=[]) (sn)) (am<|clZ O<|cP h λr10 h=>?_)
 refine wk 2 λh=>?_
 refine am<|clZ O<|uE h λr11 h=>?_
 refine wk 4 λh=>?_
 exact uZ<|aj (v:=aE r10) O<|aj (v:=aE r11) O<|aj (v:=iZ 0) O<|aq<|ar hrg eVw<|hQ _ _ _ h
theorem pJ {a:List Int} {b:List Int} {Q:List Int->Prop} (h:lW a b Q) (hQ:∀r1,Q r1->R (aE r1) S) :
  Ctr prog 23 [aE a,aE b] S R:=by
 refine au func23 rfl ntmps23 results23 krZ (λrg hrg=>?_)
 refine wk 7 λh=>?_
 refine am<|clZ O<|cP h λa1 h=>mvZ (aE b) O<|am<|clZ O<|cP h λb1 h=>?_
 refine wk 5 λh=>?_
 refine lpZ h (λy=>aw [(0,aE y.1),(1,aE y.2)]) (λy=>stL S rg []) eCa (λy _ h=>?_)
 obtain⟨a2,b2⟩:=y
 refine wk 7 λh=>?_
 refine cZ h O (λhb h=>?_) (λhb h=>?_)
 ·refine wk 6 λh=>?_
  refine am<|clZ O<|mw h λr r1 r2 h=>?_
  exact wk 9999 trivial
 refine wk 6 λh=>?_
 exact uZ<|gv1 hrg<|hQ _ h
end Go.Proofs.YtcmagbhiioheeaaGreatDoor
namespace Go.Proofs.YtcmagbhiioheeaaGreatDoor
open Go.Gg Tryz
set_option maxRecDepth 100000
set_option maxHeartbeats 2000000
variable {S:St} {R:AV->St->Prop}
theorem gJ {Q:List Int->Prop} (h:iB Q) (hQ:∀r1,Q r1->R (aE r1) S) :
  Ctr prog 51 [] S R:=by
 refine au func51 rfl ntmps51 results51 krZ (λrg hrg=>?_)
 refine wk 6 λh=>?_
 refine wZ rg<|aV dz gN dG (es:=[.int .u32 1]) O (kk:=1) O O O O O O (λg1=>?_)
 refine wk 2 λh=>?_
 exact uZ<|aj (v:=.sl 1 rg 1 g1 0 ([1].length)) O<|aq<|aP (k:=1) (xs:=List.map (AV.int .u32) [1]) O (v':=aE [1]) (aL O)<|goZ hrg<|hQ _ h
theorem lf {a:List Int} {Q:Bool->Prop} (h:gI a Q) (hQ:∀r1,Q r1->R (AV.bool r1) S) :
  Ctr prog 103 [aE a] S R:=by
 refine au func103 rfl ntmps103 results103 krZ (λrg hrg=>?_)
 refine wk 10 λh=>?_
 refine gtZ h O O (λhb h=>?_) (λhb h=>?_)
 ·refine wk 16 λh hg h hg1 h=>?_
  exact uZ<|gv1 hrg<|hQ _ h
 refine wk 9 λh=>?_
 exact uZ<|gv1 hrg<|hQ _ h
theorem ey {a:GRat} {Q:Bool->Prop} (h:dl a Q) (hQ:∀r1,Q r1->R (AV.bool r1) S) :
  Ctr prog 56 [af a] S R:=by
 refine au func56 rfl ntmps56 results56 krZ (λrg hrg=>?_)
 refine wk 6 λg1 h=>?_
 refine jgZ (γ:=Nat) h (λy=>aw [(1,.ptr rg 1 y.2 0 0),(12,.bool y.1)]) (λy=>stL S rg [(1,.arr 3 [af a],y.2)]) (λy h=>?_) (λ_ h=>?_)
 ·obtain⟨x,g2⟩:=y
  refine cZ h O (λhb h=>?_) (λhb h=>?_)
  ·refine wk 7 λh=>?_
   exact uZ<|gv1 hrg<|hQ _ h
  refine wk 5 λh=>?_
  refine am<|clZ O<|lf h λr h=>mvZ (.bool r) O<|gtZ h O O (λhb1 h=>?_) (λhb1 h=>?_)
  ·refine wk 4 λh=>?_
   refine am<|clZ O<|lf h λr1 h=>?_
   refine wk 2 λh=>?_
   refine gtZ h O O (λhb2 h=>?_) (λhb2 h=>?_)
   ·refine wk 8 λh=>?_
    refine am<|clZ O<|n_ h λr2 h=>gTZ O O hb2<|am<|clZ O<|gJ h λr3 h=>gTZ O O hb2<|am<|clZ O<|eU h λr4 h=>?_
    refine wk 5 λh=>?_
    exact uZ<|gv1 hrg<|hQ _ h
   refine wk 10 λh=>?_
   exact uZ<|gv1 hrg<|hQ _ h
  refine wk 15 λh=>?_
  exact uZ<|gv1 hrg<|hQ _ h
 exact wk 9999 trivial
theorem bP {a:GRat} {Q:Bool->List Int->List Int->Prop} (h:bV a Q) (hQ:∀r1 r2 r3,Q r1 r2 r3->R (.tuple [AV.bool r1,aE r2,aE r3]) S) :
  Ctr prog 48 [af a] S R:=by
 refine au func48 rfl ntmps48 results48 krZ (λrg hrg=>?_)
 refine wk 8 λg1 h=>?_
 refine jgZ (γ:=Nat) h (λy=>aw [(1,.ptr rg 1 y.2 0 0),(13,.bool y.1)]) (λy=>stL S rg [(1,.arr 3 [af a],y.2)]) (λy h=>?_) (λ_ h=>?_)
 ·obtain⟨x,g2⟩:=y
  refine cZ h O (λhb h=>?_) (λhb h=>?_)
  ·refine dA<|am<|clZ O<|gJ h λr h=>?_
   refine wk 4 λh=>?_
   exact uZ<|aj (v:=.bool false) O<|aj (v:=.nil) O<|aj (v:=aE r) O<|aq<|ar hrg (VW.tupL<|vZ<|vl' (VW.nilL)<|vZ<|vn)<|hQ _ _ _ h
  refine kZ<|qZ<|Vc.drawn' mixed rg (λ_=>iV) krZ ?_
  refine wk 10 λh=>?_
  exact uZ<|aj (v:=.bool a.U) O<|aj (v:=aE a.L) O<|aj (v:=aE a.W) O<|aq<|ar hrg eVw<|hQ _ _ _ h
 refine wk 2 λh=>?_
 refine am<|clZ O<|ey h λr1 h=>?_
 refine wk 2 λh=>?_
 refine gfZ h O O (λhb1 h=>?_) (λhb1 h=>?_)
 ·exact wk 9999 trivial
 exact wk 9999 trivial
theorem cR {neg:Bool} {num:List Int} {den:List Int} {Q:GRat->Prop} (h:cn neg num den Q) (hQ:∀r1,Q r1->R (af r1) S) :
  Ctr prog 57 [AV.bool neg,aE num,aE den] S R:=by
 refine au func57 rfl ntmps57 results57 krZ (λrg hrg=>?_)
 refine wk 8 λg1 h=>?_
 refine am<|clZ O<|rY h λr h=>am<|BV O O<|nZ<|cZ h O (λhb h=>?_) (λhb h=>?_)
 ·refine dA<|am<|bx mg cx kw kp bf (ps:=[]) O O (v:=.agg [.bool false,.nil,.nil]) O ?_
  refine wk 2 λh=>?_
  exact uZ<|aO (aZ 6 O) bf dZ dT O O (v:=.agg [.bool false,.nil,.nil]) O<|aq<|ar hrg (VW.aggL<|vZ<|vl' (VW.nilL)<|vl' (VW.nilL)<|vn)<|hQ _ h
 refine wk 5 λh=>?_
 refine am<|clZ O<|n_ h λg2 h=>?_
 refine wk 6 λh=>?_
 refine am<|clZ O<|jZ h λr1 r2 r3 h=>?_
 refine wk 12 λh=>?_
 refine am<|clZ O<|jZ h λr4 r5 r6 h=>?_
 refine wk 13 λh=>?_
 refine am<|bx mg cx kw kp bf (ps:=[(0,.bool neg),(1,aE r1),(2,aE r4)]) O O (v:=.agg [.bool neg,aE r1,aE r4]) O ?_
 refine wk 2 λh=>?_
 exact uZ<|aO (aZ 6 O) bf dZ dT O O (v:=.agg [.bool neg,aE r1,aE r4]) O<|aq<|goZ hrg<|hQ _ h
theorem bE {a:GRat} {b:GRat} {Q:GRat->Prop} (h:bu a b Q) (hQ:∀r1,Q r1->R (af r1) S) :
  Ctr prog 27 [af a,af b] S R:=by
 refine au func27 rfl ntmps27 results27 krZ (λrg hrg=>?_)
 refine wk 9 λg1 g2 g3 h=>?_
 refine am<|clZ O<|bP h λr r1 r2 h=>?_
 refine wk 11 λh=>?_
 refine am<|clZ O<|bP h λr3 r4 r5 h=>?_
 refine wk 12 λh=>?_
 refine am<|clZ O<|dO h λp h=>?_
 refine wk 2 λh=>?_
 refine am<|clZ O<|dO h λq h=>?_
 refine wk 7 λh=>?_
 refine am<|clZ O<|dO h λden h=>?_
 refine wk 9 λh=>?_
 refine cZ h O (λhb h=>?_) (λhb h=>?_)
 ·refine wk 5 λh=>?_
  refine am<|clZ O<|tF h λr6 h=>mvZ (aE den) O<|am<|clZ O<|cR h λr7 h=>?_
  refine wk 2 λh=>?_
  exact uZ<|aO (aZ 4 O) bf dZ dT O O (v:=af r7) O<|aq<|goZ hrg<|hQ _ h
 refine wk 6 λh=>?_
 refine am<|clZ O<|eU h λr8 h=>am<|Pt O O<|nZ<|cZ h O (λhb1 h=>?_) (λhb1 h=>?_)
 ·refine wk 4 λh=>?_
  refine am<|clZ O<|nY h λr9 r10 h=>?_
  refine wk 11 λh=>?_
  refine am<|clZ O<|cR h λr11 h=>?_
  refine wk 2 λh=>?_
  exact uZ<|aO (aZ 4 O) bf dZ dT O O (v:=af r11) O<|aq<|goZ hrg<|hQ _ h
 refine wk 5 λh=>?_
 refine am<|clZ O<|nY h λr12 r13 h=>?_
 refine wk 11 λh=>?_
 refine am<|clZ O<|cR h λr14 h=>?_
 refine wk 2 λh=>?_
 exact uZ<|aO (aZ 4 O) bf dZ dT O O (v:=af r14) O<|aq<|goZ hrg<|hQ _ h
theorem qQ {n:Int} {Q:List Int->Prop} (h:jU n Q) (hQ:∀r1,Q r1->R (aE r1) S) :
  Ctr prog 65 [iZ n] S R:=by
 refine au func65 rfl ntmps65 results65 krZ (λrg hrg=>?_)
 refine wk 10 λh=>?_
 refine cZ h O (λhb h=>?_) (λhb h=>?_)
 ·refine dA<|wZ rg<|aV dz gN dG (es:=[.int .u32 0,.int .u32 2147483648]) O (kk:=1) O O O O O O (λg1=>?_)
  refine wk 2 λh=>?_
  exact uZ<|aj (v:=.sl 1 rg 5 g1 0 ([0,2147483648].length)) O<|aq<|aP (k:=5) (xs:=List.map (AV.int .u32) [0,2147483648]) O (v':=aE [0,2147483648]) (aL O)<|goZ hrg<|hQ _ h
 refine wk 5 λh=>?_
 exact tkZ h (λhg h=>am<|RV O hg<|am<|Gc O O<|am<|clZ O<|oG h λr h=>asZ (aE r) O<|fI<|gv1 hrg<|hQ _ h)
theorem co {n:Int} {Q:GRat->Prop} (h:bW n Q) (hQ:∀r1,Q r1->R (af r1) S) :
  Ctr prog 32 [iZ n] S R:=by
 refine au func32 rfl ntmps32 results32 krZ (λrg hrg=>?_)
 refine wk 9 λg1 h=>?_
 refine am<|clZ O<|qQ h λr h=>am<|clZ O<|gJ h λr1 h=>am<|clZ O<|cR h λr2 h=>?_
 refine wk 2 λh=>?_
 exact uZ<|aO (aZ 2 O) bf dZ dT O O (v:=af r2) O<|aq<|goZ hrg<|hQ _ h
theorem rQ {a:GRat} {Q:GRat->Prop} (h:li a Q) (hQ:∀r1,Q r1->R (af r1) S) :
  Ctr prog 66 [af a] S R:=by
 refine au func66 rfl ntmps66 results66 krZ (λrg hrg=>?_)
 refine wk 8 λg1 g2 h=>?_
 refine am<|clZ O<|bP h λr r1 r2 h=>?_
 refine wk 14 λh=>?_
 refine am<|clZ O<|cR h λr3 h=>?_
 refine wk 2 λh=>?_
 exact uZ<|aO (aZ 2 O) bf dZ dT O O (v:=af r3) O<|aq<|goZ hrg<|hQ _ h
theorem dm {a:GRat} {b:GRat} {Q:GRat->Prop} (h:cg a b Q) (hQ:∀r1,Q r1->R (af r1) S) :
  Ctr prog 34 [af a,af b] S R:=by
 refine au func34 rfl ntmps34 results34 krZ (λrg hrg=>?_)
 refine wk 7 λg1 g2 g3 h=>?_
 obtain⟨r,hc,h⟩:=h
 obtain⟨r1,hc1,h⟩:=h
 refine Vc.drawn' mixed rg (gd [(2,pc (af r)),(3,pc (af r1))]) krZ ?_
 refine wk 2 λh=>?_
 refine dC (vs:=[af b]) O (vZ<|vn) (λ_=>rQ hc (λ_ hr=>⟨by rw[hr],rfl⟩)) O<|dC (vs:=[af a,af r]) O (vZ<|vZ<|vn) (λ_=>bE hc1 (λ_ hr=>⟨by rw[hr],rfl⟩)) O ?_
 refine wk 2 λh=>?_
 exact uZ<|aO (aZ 4 O) bf dZ dT O O (v:=af r1) O<|aq<|goZ hrg<|hQ _ h
theorem bw {a:GRat} {Q:Int->Prop} (h:bh a Q) (hQ:∀r1,Q r1->R (iZ r1) S) :
  Ctr prog 31 [af a] S R:=by
 refine au func31 rfl ntmps31 results31 krZ (λrg hrg=>?_)
 refine wk 8 λg1 h=>?_
 refine am<|clZ O<|bP h λr r1 r2 h=>?_
 refine wk 17 λh=>?_
 refine cZ h O (λhb h=>?_) (λhb h=>?_)
 ·exact dA<|asZ (iZ 0) O<|fI<|gv1 hrg<|hQ _ h
 refine wk 5 λh=>?_
 refine cZ h O (λhb1 h=>?_) (λhb1 h=>?_)
 ·refine wk 4 λh=>?_
  exact uZ<|gv1 hrg<|hQ _ h
 refine wk 5 λh=>?_
 exact uZ<|gv1 hrg<|hQ _ h
theorem mO {a:GRat} {b:GRat} {Q:GRat->Option Int->Prop} (h:ez a b Q) (hQ:∀r1 r2,Q r1 r2->R (.tuple [af r1,cw 39 r2]) S) :
  Ctr prog 26 [af a,af b] S R:=by
 refine au func26 rfl ntmps26 results26 krZ (λrg hrg=>?_)
 refine wk 10 λg1 g2 g3 h=>?_
 refine am<|clZ O<|bP h λr r1 r2 h=>?_
 refine wk 11 λh=>?_
 refine am<|clZ O<|bP h λr3 r4 r5 h=>?_
 refine wk 15 λh=>?_
 refine cZ h O (λhb h=>?_) (λhb h=>?_)
 ·refine dA<|am<|bx mg cx kw kp bf (ps:=[]) O O (v:=.agg [.bool false,.nil,.nil]) O ?_
  refine wk 4 λh=>?_
  exact uZ<|aO (aZ 4 O) bf dZ dT O O (v:=.agg [.bool false,.nil,.nil]) O<|aj (v:=.iface 39 (iZ 8)) O<|aq<|ar hrg (VW.tupL<|vl' (VW.aggL<|vZ<|vl' (VW.nilL)<|vl' (VW.nilL)<|vn)<|vZ<|vn)<|hQ _ _ h
 refine wk 8 λh=>?_
 refine am<|clZ O<|dO h λr6 h=>?_
 refine wk 2 λh=>?_
 refine am<|clZ O<|dO h λr7 h=>am<|clZ O<|cR h λr8 h=>?_
 refine wk 3 λh=>?_
 exact uZ<|aO (aZ 4 O) bf dZ dT O O (v:=af r8) O<|aj (v:=.niface) O<|aq<|ar hrg eVw<|hQ _ _ h
theorem ee {a:GRat} {b:GRat} {Q:GRat->Prop} (h:cA a b Q) (hQ:∀r1,Q r1->R (af r1) S) :
  Ctr prog 33 [af a,af b] S R:=by
 refine au func33 rfl ntmps33 results33 krZ (λrg hrg=>?_)
 refine wk 9 λg1 g2 g3 h=>?_
 refine am<|clZ O<|bP h λr r1 r2 h=>?_
 refine wk 11 λh=>?_
 refine am<|clZ O<|bP h λr3 r4 r5 h=>?_
 refine wk 15 λh=>?_
 refine am<|clZ O<|dO h λr6 h=>?_
 refine wk 2 λh=>?_
 refine am<|clZ O<|dO h λr7 h=>am<|clZ O<|cR h λr8 h=>?_
 refine wk 2 λh=>?_
 exact uZ<|aO (aZ 4 O) bf dZ dT O O (v:=af r8) O<|aq<|goZ hrg<|hQ _ h
theorem uC {neg:Bool} {num:List Int} {den:List Int} {Q:GRat->Int->Prop} (h:nA neg num den Q) (hQ:∀r1 r2,Q r1 r2->R (.tuple [af r1,iZ r2]) S) :
  Ctr prog 123 [AV.bool neg,aE num,aE den] S R:=by
 refine au func123 rfl ntmps123 results123 krZ (λrg hrg=>?_)
 refine wk 9 λg1 h=>?_
 refine am<|clZ O<|k_ h λr h=>am<|BV O O<|nZ<|cZ h O (λhb h=>?_) (λhb h=>?_)
 ·refine dA<|am<|bx mg cx kw kp bf (ps:=[]) O O (v:=.agg [.bool false,.nil,.nil]) O ?_
  refine wk 3 λh=>?_
  exact uZ<|aO (aZ 6 O) bf dZ dT O O (v:=.agg [.bool false,.nil,.nil]) O<|aj (v:=iZ 8) O<|aq<|ar hrg (VW.tupL<|vl' (VW.aggL<|vZ<|vl' (VW.nilL)<|vl' (VW.nilL)<|vn)<|vZ<|vn)<|hQ _ _ h
 refine wk 5 λh=>?_
 refine am<|clZ O<|k_ h λr1 h=>am<|BV O O<|nZ<|cZ h O (λhb1 h=>?_) (λhb1 h=>?_)
 ·refine dA<|am<|bx mg cx kw kp bf (ps:=[]) O O (v:=.agg [.bool false,.nil,.nil]) O ?_
  refine wk 3 λh=>?_
  exact uZ<|aO (aZ 6 O) bf dZ dT O O (v:=.agg [.bool false,.nil,.nil]) O<|aj (v:=iZ 0) O<|aq<|ar hrg (VW.tupL<|vl' (VW.aggL<|vZ<|vl' (VW.nilL)<|vl' (VW.nilL)<|vn)<|vZ<|vn)<|hQ _ _ h
 refine wk 5 λh=>?_
 refine am<|clZ O<|pJ h λg2 h=>?_
 refine wk 6 λh=>?_
 refine am<|clZ O<|mw h λr2 r3 r4 h=>?_
 refine wk 12 λh=>?_
 refine am<|clZ O<|mw h λr5 r6 r7 h=>?_
 refine wk 13 λh=>?_
 refine am<|bx mg cx kw kp bf (ps:=[(0,.bool neg),(1,aE r2),(2,aE r5)]) O O (v:=.agg [.bool neg,aE r2,aE r5]) O ?_
 refine wk 3 λh=>?_
 exact uZ<|aO (aZ 6 O) bf dZ dT O O (v:=.agg [.bool neg,aE r2,aE r5]) O<|aj (v:=iZ 0) O<|aq<|ar hrg eVw<|hQ _ _ h
theorem oA {n:Int} {Q:List Int->Prop} (h:kx n Q) (hQ:∀r1,Q r1->R (aE r1) S) :
  Ctr prog 124 [iZ n] S R:=by
 refine au func124 rfl ntmps124 results124 krZ (λrg hrg=>?_)
 refine wk 10 λh=>?_
 refine jnZ h (λy=>aw [(3,.int .u64 y)]) (λy=>stL S rg []) (λu h=>?_) (λ_ h=>?_)
 ·refine wk 7 λh=>?_
  refine wZ rg<|aV dz gN dG (es:=[.int .u32 (IntKind.wrap .u32 u),.int .u32 (IntKind.wrap .u32<|u / 2^(Int.toNat 32))]) O (kk:=1) O O O O O O (λg1=>?_)
  refine wk 2 λh=>?_
  exact uZ<|aj (v:=.sl 1 rg 15 g1 0 ([(IntKind.wrap .u32 u),(IntKind.wrap .u32<|u / 2^(Int.toNat 32))].length)) O (aq<|aP (k:=15) (xs:=List.map (AV.int .u32) [(IntKind.wrap .u32 u),(IntKind.wrap .u32<|u / 2^(Int.toNat 32))]) O (v':=aE [(IntKind.wrap .u32 u),(IntKind.wrap .u32<|u / 2^(Int.toNat 32))]) (aL O) (goZ hrg<|hQ _ h))
 refine wk 5 λh=>?_
 refine cZ h O (λhb h=>?_) (λhb h=>?_)
 ·refine wk 3 λh=>?_
  refine stZ h (λu1 hs h=>wZ rg<|bT (v:=.int .u64 u1) (by subst hs;rfl) ?_)
  exact wk 9999 trivial
 exact wk 9999 trivial
theorem uB {n:Int} {d:Int} {Q:GRat->Int->Prop} (h:nz n d Q) (hQ:∀r1 r2,Q r1 r2->R (.tuple [af r1,iZ r2]) S) :
  Ctr prog 88 [iZ n,iZ d] S R:=by
 refine au func88 rfl ntmps88 results88 krZ (λrg hrg=>?_)
 refine wk 13 λg1 h=>?_
 refine am<|clZ O<|oA h λr h=>mvZ (iZ d) O<|am<|clZ O<|oA h λr1 h=>am<|clZ O<|uC h λr2 r3 h=>?_
 refine wk 5 λh=>?_
 exact uZ<|aO (aZ 4 O) bf dZ dT O O (v:=af r2) O<|aj (v:=iZ r3) O<|aq<|ar hrg eVw<|hQ _ _ h
theorem qO {n:Int} {Q:GRat->Prop} (h:kY n Q) (hQ:∀r1,Q r1->R (af r1) S) :
  Ctr prog 46 [iZ n] S R:=by
 refine au func46 rfl ntmps46 results46 krZ (λrg hrg=>?_)
 refine wk 7 λg1 h=>?_
 refine am<|clZ O<|uB h λr r1 h=>?_
 refine wk 12 λg2 h=>?_
 exact uZ<|aO (aZ 2 O) bf dZ dT O O (v:=af r) O<|aq<|goZ hrg<|hQ _ h
theorem nV {a:GRat} {Q:Bool->Prop} (h:jr a Q) (hQ:∀r1,Q r1->R (AV.bool r1) S) :
  Ctr prog 6 [af a] S R:=by
 refine au func6 rfl ntmps6 results6 krZ (λrg hrg=>?_)
 refine wk 6 λg1 h=>?_
 refine Vc.drawn' mixed rg (λ_=>iV) krZ ?_
 refine wk 10 λh=>?_
 refine jgZ (γ:=Nat) h (λy=>aw [(1,.ptr rg 1 y.2 0 0),(3,iZ (a.L.length:Int)),(4,iZ (a.W.length:Int)),(16,.bool y.1)]) (λy=>stL S rg [(1,.arr 3 [af a],y.2)]) (λy h=>?_) (λ_ h=>?_)
 ·obtain⟨x,g2⟩:=y
  refine cZ h O (λhb h=>?_) (λhb h=>?_)
  ·refine wk 5 λh=>?_
   refine gtZ h O O (λhb1 h=>?_) (λhb1 h=>?_)
   ·refine wk 5 λh=>?_
    refine gtZ h O O (λhb2 h=>?_) (λhb2 h=>?_)
    ·refine wk 8 λh=>?_
     exact uZ<|gv1 hrg<|hQ _ h
    refine wk 5 λh=>?_
    exact uZ<|gv1 hrg<|hQ _ h
   refine wk 9 λh=>?_
   exact uZ<|gv1 hrg<|hQ _ h
  refine wk 11 λh hg h hg1 h=>?_
  refine gtZ h O O (λhb3 h=>?_) (λhb3 h=>?_)
  ·refine wk 15 λh hg2 h hg3 h=>?_
   refine gtZ h O O (λhb4 h=>?_) (λhb4 h=>?_)
   ·refine wk 8 λh=>?_
    refine am<|clZ O<|pJ h λr h=>gTZ O O hb4<|am<|clZ O<|k_ h λr1 h=>?_
    refine wk 5 λh=>?_
    exact uZ<|gv1 hrg<|hQ _ h
   refine wk 9 λh=>?_
   exact uZ<|gv1 hrg<|hQ _ h
  refine wk 18 λh=>?_
  exact uZ<|gv1 hrg<|hQ _ h
 exact wk 9999 trivial
theorem tu {a:GRat} {Q:Bool->List Int->List Int->Prop} (h:mu a Q) (hQ:∀r1 r2 r3,Q r1 r2 r3->R (.tuple [AV.bool r1,aE r2,aE r3]) S) :
  Ctr prog 24 [af a] S R:=by
 refine au func24 rfl ntmps24 results24 krZ (λrg hrg=>?_)
 refine wk 8 λg1 h=>?_
 refine jgZ (γ:=Nat) h (λy=>aw [(1,.ptr rg 1 y.2 0 0),(13,.bool y.1)]) (λy=>stL S rg [(1,.arr 3 [af a],y.2)]) (λy h=>?_) (λ_ h=>?_)
 ·obtain⟨x,g2⟩:=y
  refine cZ h O (λhb h=>?_) (λhb h=>?_)
  ·refine dA<|wZ rg<|aV dz gN dG (es:=[.int .u32 1]) O (kk:=1) O O O O O O (λg3=>?_)
   refine wk 4 λh=>?_
   exact uZ<|aj (v:=.bool false) O<|aj (v:=.nil) O<|aj (v:=.sl 1 rg 14 g3 0 ([1].length)) O<|aq<|aP (k:=14) (xs:=List.map (AV.int .u32) [1]) O (v':=.tuple [.bool false,.nil,aE [1]]) (VW.tupL<|vZ<|vZ<|vl' (aL O)<|vn)<|ar hrg (VW.tupL<|vZ<|vl' (VW.nilL)<|vZ<|vn)<|hQ _ _ _ h
  refine kZ<|qZ<|Vc.drawn' mixed rg (λ_=>iV) krZ ?_
  refine wk 10 λh=>?_
  exact uZ<|aj (v:=.bool a.U) O<|aj (v:=aE a.L) O<|aj (v:=aE a.W) O<|aq<|ar hrg eVw<|hQ _ _ _ h
 refine wk 2 λh=>?_
 refine am<|clZ O<|nV h λr h=>?_
 refine wk 2 λh=>?_
 refine gfZ h O O (λhb1 h=>?_) (λhb1 h=>?_)
 ·exact wk 9999 trivial
 exact wk 9999 trivial
theorem uA {a:GRat} {Q:Int->Prop} (h:ny a Q) (hQ:∀r1,Q r1->R (iZ r1) S) :
  Ctr prog 7 [af a] S R:=by
 refine au func7 rfl ntmps7 results7 krZ (λrg hrg=>?_)
 refine wk 8 λg1 h=>?_
 refine am<|clZ O<|tu h λr r1 r2 h=>?_
 refine wk 15 λh=>?_
 refine cZ h O (λhb h=>?_) (λhb h=>?_)
 ·exact dA<|asZ (iZ 0) O<|fI<|gv1 hrg<|hQ _ h
 refine wk 6 λh=>?_
 refine cZ h O (λhb1 h=>?_) (λhb1 h=>?_)
 ·refine wk 4 λh=>?_
  exact uZ<|gv1 hrg<|hQ _ h
 refine wk 5 λh=>?_
 exact uZ<|gv1 hrg<|hQ _ h
theorem Af {err:Option Int} {code:Int} {Q:Bool->Prop} (h:xr err code Q) (hQ:∀r1,Q r1->R (AV.bool r1) S) :
  Ctr prog 9 [cw 39 err,iZ code] S R:=by
 refine au func9 rfl ntmps9 results9 krZ (λrg hrg=>?_)
 refine wk 7 λh=>?_
 refine am<|CW Rr RP Dt O ?_
 refine wk 10 λh=>?_
 refine gtZ h O O (λhb h=>?_) (λhb h=>?_)
 ·refine wk 8 λh=>?_
  exact uZ<|gv1 hrg<|hQ _ h
 refine wk 5 λh=>?_
 exact uZ<|gv1 hrg<|hQ _ h
theorem qR {a:GRat} {Q:Bool->Prop} (h:jW a Q) (hQ:∀r1,Q r1->R (AV.bool r1) S) :
  Ctr prog 69 [af a] S R:=by
 refine au func69 rfl ntmps69 results69 krZ (λrg hrg=>?_)
 refine wk 8 λg1 h=>?_
 refine am<|clZ O<|ey h λr h=>mvZ (.bool r) O<|gtZ h O O (λhb h=>?_) (λhb h=>?_)
 ·refine wk 7 λh=>?_
  refine gtZ h O O (λhb1 h=>?_) (λhb1 h=>?_)
  ·refine wk 8 λh=>?_
   refine am<|clZ O<|eU h λr1 h=>?_
   refine wk 5 λh=>?_
   exact uZ<|gv1 hrg<|hQ _ h
  refine wk 8 λh=>?_
  exact uZ<|gv1 hrg<|hQ _ h
 refine wk 13 λh=>?_
 exact uZ<|gv1 hrg<|hQ _ h
theorem gK {a:GRat} {b:GRat} {Q:Int->Prop} (h:eB a b Q) (hQ:∀r1,Q r1->R (iZ r1) S) :
  Ctr prog 16 [af a,af b] S R:=by
 refine au func16 rfl ntmps16 results16 krZ (λrg hrg=>?_)
 refine wk 10 λg1 g2 h=>?_
 exact am<|clZ O<|dm h λr h=>am<|clZ O<|bw h λr1 h=>asZ (iZ r1) O<|fI<|gv1 hrg<|hQ _ h
end Go.Proofs.YtcmagbhiioheeaaGreatDoor
namespace Go.Proofs.YtcmagbhiioheeaaGreatDoor
open Go.Gg Tryz
set_option maxRecDepth 100000
set_option maxHeartbeats 2000000
variable {S:St} {R:AV->St->Prop}
theorem uz {f:GFormula} {i:Int} {Q:Int->Prop} (h:nw f i Q) (hQ:∀r1,Q r1->R (iZ r1) S) :
  Ctr prog 52 [aI f,iZ i] S R:=by
 refine au func52 rfl ntmps52 results52 krZ (λrg hrg=>?_)
 refine wk 20 λg1 g2 h hg h=>?_
 refine jgZ (γ:=Nat×Nat) h (λy=>aw [(1,iZ i),(2,.ptr rg 2 y.2.1 0 0),(5,.ptr rg 5 y.2.2 0 0),(6,iZ y.1.1),(7,iZ y.1.2)]) (λy=>stL S rg [(2,.arr 3 [aI f],y.2.1),(5,.arr 3 [cz (at' f.N i)],y.2.2)]) (λy h=>?_) (λ_ h=>?_)
 ·obtain⟨⟨zG,most⟩,⟨g3,g4⟩⟩:=y
  refine wk 9 λh=>?_
  refine gfZ h O O (λhb h=>?_) (λhb h=>?_)
  ·refine wk 11 λh=>?_
   refine cZ h O (λhb1 h=>?_) (λhb1 h=>?_)
   ·exact dA<|asZ (iZ 11) O<|fI<|gv1 hrg<|hQ _ h
   refine wk 10 λh=>?_
   refine lpZ h (λy=>aw [(1,iZ i),(2,.ptr rg 2 g3 0 0),(5,.ptr rg 5 g4 0 0),(39,cp ((at' f.N i).M)),(40,iZ (((at' f.N i).M).length:Int)),(41,iZ y)]) (λy=>stL S rg [(2,.arr 3 [aI f],g3),(5,.arr 3 [cz (at' f.N i)],g4)]) eCa (λx _ h=>?_)
   refine wk 5 λh=>?_
   refine cZ h O (λhb2 h=>?_) (λhb2 h=>?_)
   ·refine wk 14 λh hg1 h=>?_
    refine gfZ h O O (λhb3 h=>?_) (λhb3 h=>?_)
    ·refine wk 13 λh hg2 h=>?_
     refine cZ h O (λhb4 h=>?_) (λhb4 h=>?_)
     ·exact dA<|asZ (iZ 10) O<|fI<|gv1 hrg<|hQ _ h
     exact wk 9999 trivial
    refine wk 7 λh=>?_
    exact cTZ O O<|dA<|asZ (iZ 10) O<|fI<|gv1 hrg<|hQ _ h
   refine wk 13 λh=>?_
   refine cZ h O (λhb5 h=>?_) (λhb5 h=>?_)
   ·refine wk 6 λh=>?_
    refine gtZ h O O (λhb6 h=>?_) (λhb6 h=>?_)
    ·refine wk 7 λh=>?_
     refine cZ h O (λhb7 h=>?_) (λhb7 h=>?_)
     ·exact dA<|asZ (iZ 3) O<|fI<|gv1 hrg<|hQ _ h
     refine wk 5 λh=>?_
     exact uZ<|gv1 hrg<|hQ _ h
    refine wk 4 λh=>?_
    refine cFZ O O ?_
    refine wk 5 λh=>?_
    exact uZ<|gv1 hrg<|hQ _ h
   refine wk 5 λh=>?_
   refine cZ h O (λhb8 h=>?_) (λhb8 h=>?_)
   ·refine wk 6 λh=>?_
    refine gfZ h O O (λhb9 h=>?_) (λhb9 h=>?_)
    ·refine wk 13 λh=>?_
     refine cZ h O (λhb10 h=>?_) (λhb10 h=>?_)
     ·exact dA<|asZ (iZ 3) O<|fI<|gv1 hrg<|hQ _ h
     refine wk 5 λh=>?_
     exact uZ<|gv1 hrg<|hQ _ h
    refine wk 7 λh=>?_
    exact cTZ O O<|dA<|asZ (iZ 3) O<|fI<|gv1 hrg<|hQ _ h
   refine wk 6 λh=>?_
   refine cZ h O (λhb11 h=>?_) (λhb11 h=>?_)
   ·exact dA<|asZ (iZ 2) O<|fI<|gv1 hrg<|hQ _ h
   refine wk 5 λh=>?_
   exact uZ<|gv1 hrg<|hQ _ h
  refine wk 6 λh=>?_
  exact cTZ O O<|dA<|asZ (iZ 11) O<|fI<|gv1 hrg<|hQ _ h
 refine wk 11 λh=>?_
 refine cZ h O (λhb12 h=>?_) (λhb12 h=>?_)
 ·exact wk 9999 trivial
 refine wk 5 λh=>?_
 refine cZ h O (λhb13 h=>?_) (λhb13 h=>?_)
 ·exact wk 9999 trivial
 refine wk 6 λh=>?_
 refine cZ h O (λhb14 h=>?_) (λhb14 h=>?_)
 ·refine kZ<|cTZ O hb14 ?_
  exact wk 9999 trivial
 refine wk 5 λh=>?_
 refine cZ h O (λhb15 h=>?_) (λhb15 h=>?_)
 ·refine kZ<|cTZ O hb15 ?_
  exact wk 9999 trivial
 refine wk 5 λh=>?_
 refine cZ h O (λhb16 h=>?_) (λhb16 h=>?_)
 ·refine kZ<|cTZ O hb16 ?_
  exact wk 9999 trivial
 refine wk 4 λh=>?_
 refine cZ h O (λhb17 h=>?_) (λhb17 h=>?_)
 ·exact wk 9999 trivial
 exact dA<|asZ (iZ 7) O<|fI<|gv1 hrg<|hQ _ h
theorem tq {f:GFormula} {arg:Int} {Q:Bool->Prop} (h:mq f arg Q) (hQ:∀r1,Q r1->R (AV.bool r1) S) :
  Ctr prog 53 [aI f,iZ arg] S R:=by
 refine au func53 rfl ntmps53 results53 krZ (λrg hrg=>?_)
 refine wk 11 λg1 h=>?_
 refine gtZ h O O (λhb h=>?_) (λhb h=>?_)
 ·refine wk 5 λh=>?_
  refine gtZ h O O (λhb1 h=>?_) (λhb1 h=>?_)
  ·refine wk 9 λh=>?_
   refine gfZ h O O (λhb2 h=>?_) (λhb2 h=>?_)
   ·refine wk 20 λh hg h=>?_
    exact uZ<|gv1 hrg<|hQ _ h
   refine wk 12 λh=>?_
   exact uZ<|gv1 hrg<|hQ _ h
  refine wk 16 λh=>?_
  exact uZ<|gv1 hrg<|hQ _ h
 refine wk 20 λh=>?_
 exact uZ<|gv1 hrg<|hQ _ h
theorem tr {f:GFormula} {Q:Int->Prop} (h:mr f Q) (hQ:∀r1,Q r1->R (iZ r1) S) :
  Ctr prog 21 [aI f] S R:=by
 refine au func21 rfl ntmps21 results21 krZ (λrg hrg=>?_)
 refine wk 12 λg1 h=>?_
 refine gfZ h O O (λhb h=>?_) (λhb h=>?_)
 ·refine wk 7 λh=>?_
  refine cZ h O (λhb1 h=>?_) (λhb1 h=>?_)
  ·exact dA<|asZ (iZ 3) O<|fI<|gv1 hrg<|hQ _ h
  refine wk 9 λh=>?_
  refine cZ h O (λhb2 h=>?_) (λhb2 h=>?_)
  ·exact dA<|asZ (iZ 4) O<|fI<|gv1 hrg<|hQ _ h
  refine wk 10 λh=>?_
  refine lpZ h (λy=>aw [(1,.ptr rg 1 g1 0 0),(19,iZ (f.N.length:Int)),(20,iZ y)]) (λy=>stL S rg [(1,.arr 3 [aI f],g1)]) eCa (λx _ h=>?_)
  refine wk 5 λh=>?_
  refine cZ h O (λhb3 h=>?_) (λhb3 h=>?_)
  ·refine wk 12 λh=>?_
   refine am<|clZ O<|uz h λe h=>?_
   refine wk 7 λh=>?_
   refine cZ h O (λhb4 h=>?_) (λhb4 h=>?_)
   ·refine wk 5 λh=>?_
    exact uZ<|gv1 hrg<|hQ _ h
   exact wk 9999 trivial
  refine wk 7 λh=>?_
  refine am<|clZ O<|tq h λr h=>am<|uV O<|nZ<|cZ h O (λhb5 h=>?_) (λhb5 h=>?_)
  ·exact dA<|asZ (iZ 10) O<|fI<|gv1 hrg<|hQ _ h
  refine wk 5 λh=>?_
  exact uZ<|gv1 hrg<|hQ _ h
 refine wk 4 λh=>?_
 exact cTZ O O<|dA<|asZ (iZ 3) O<|fI<|gv1 hrg<|hQ _ h
theorem og {kind:Int} {n:Int} {Q:Bool->Prop} (h:gS kind n Q) (hQ:∀r1,Q r1->R (AV.bool r1) S) :
  Ctr prog 108 [iZ kind,iZ n] S R:=by
 refine au func108 rfl ntmps108 results108 krZ (λrg hrg=>?_)
 refine wk 15 λh=>?_
 refine cZ h O (λhb h=>?_) (λhb h=>?_)
 ·refine wk 6 λh=>?_
  exact uZ<|gv1 hrg<|hQ _ h
 refine wk 5 λh=>?_
 refine cZ h O (λhb1 h=>?_) (λhb1 h=>?_)
 ·refine wk 6 λh=>?_
  exact uZ<|gv1 hrg<|hQ _ h
 refine wk 6 λh=>?_
 refine gtZ h O O (λhb2 h=>?_) (λhb2 h=>?_)
 ·refine wk 6 λh=>?_
  exact uZ<|gv1 hrg<|hQ _ h
 refine wk 4 λh=>?_
 exact uZ<|gv1 hrg<|hQ _ h
theorem oe {f:GFormula} {i:Int} {Q:Option Int->Prop} (h:gR f i Q) (hQ:∀r1,Q r1->R (cw 39 r1) S) :
  Ctr prog 61 [aI f,iZ i] S R:=by
 refine au func61 rfl ntmps61 results61 krZ (λrg hrg=>?_)
 refine wk 16 λg1 g2 h hg h=>?_
 refine jgZ (γ:=Nat×Nat) h (λy=>aw [(1,iZ i),(2,.ptr rg 2 y.2.1 0 0),(5,.ptr rg 5 y.2.2 0 0),(20,.bool y.1)]) (λy=>stL S rg [(2,.arr 3 [aI f],y.2.1),(5,.arr 3 [cz (at' f.N i)],y.2.2)]) (λy h=>?_) (λ_ h=>?_)
 ·obtain⟨x,⟨g3,g4⟩⟩:=y
  refine cZ h O (λhb h=>?_) (λhb h=>?_)
  ·refine wk 5 λh=>?_
   exact uZ<|gv1 hrg<|hQ _ h
  refine wk 9 λh=>?_
  refine am<|clZ O<|og h λr h=>am<|uV O<|nZ<|cZ h O (λhb1 h=>?_) (λhb1 h=>?_)
  ·refine wk 5 λh=>?_
   exact uZ<|gv1 hrg<|hQ _ h
  refine wk 10 λh=>?_
  refine lgZ h (g3,g4) (λy=>aw [(1,iZ i),(2,.ptr rg 2 y.2.1 0 0),(5,.ptr rg 5 y.2.2 0 0),(31,cp ((at' f.N i).M)),(32,iZ (((at' f.N i).M).length:Int)),(33,iZ y.1)]) (λy=>stL S rg [(2,.arr 3 [aI f],y.2.1),(5,.arr 3 [cz (at' f.N i)],y.2.2)]) eCa (λy _ h=>?_)
  obtain⟨x1,⟨g5,g6⟩⟩:=y
  refine wk 5 λh=>?_
  refine cZ h O (λhb2 h=>?_) (λhb2 h=>?_)
  ·refine wk 9 λh hg1 h=>?_
   refine jgZ (γ:=Nat×Nat) h (λy=>aw [(1,iZ i),(2,.ptr rg 2 y.2.1 0 0),(5,.ptr rg 5 y.2.2 0 0),(31,cp ((at' f.N i).M)),(32,iZ (((at' f.N i).M).length:Int)),(33,iZ x1),(46,.bool y.1)]) (λy=>stL S rg [(2,.arr 3 [aI f],y.2.1),(5,.arr 3 [cz (at' f.N i)],y.2.2)]) (λy h=>?_) (λ_ h=>?_)
   ·obtain⟨x2,⟨g7,g8⟩⟩:=y
    refine cZ h O (λhb3 h=>?_) (λhb3 h=>?_)
    ·refine wk 5 λh=>?_
     exact uZ<|gv1 hrg<|hQ _ h
    exact wk 9999 trivial
   exact wk 9999 trivial
  refine wk 13 λh=>?_
  refine cZ h O (λhb5 h=>?_) (λhb5 h=>?_)
  ·refine jnZ h (λy=>aw [(64,.bool y)]) (λy=>stL S rg []) (λx3 h=>?_) (λ_ h=>?_)
   ·refine cZ h O (λhb6 h=>?_) (λhb6 h=>?_)
    ·refine wk 5 λh=>?_
     exact uZ<|gv1 hrg<|hQ _ h
    refine wk 5 λh=>?_
    exact uZ<|gv1 hrg<|hQ _ h
   exact wk 9999 trivial
  refine wk 5 λh=>?_
  refine cZ h O (λhb8 h=>?_) (λhb8 h=>?_)
  ·refine jnZ h (λy=>aw [(78,.bool y)]) (λy=>stL S rg []) (λx4 h=>?_) (λ_ h=>?_)
   ·refine cZ h O (λhb9 h=>?_) (λhb9 h=>?_)
    ·refine wk 5 λh=>?_
     exact uZ<|gv1 hrg<|hQ _ h
    refine wk 5 λh=>?_
    exact uZ<|gv1 hrg<|hQ _ h
   exact wk 9999 trivial
  refine wk 6 λh=>?_
  refine cZ h O (λhb11 h=>?_) (λhb11 h=>?_)
  ·refine wk 5 λh=>?_
   exact uZ<|gv1 hrg<|hQ _ h
  refine wk 5 λh=>?_
  exact uZ<|gv1 hrg<|hQ _ h
 exact wk 9999 trivial
theorem ru {f:GFormula} {arg:Int} {Q:Bool->Prop} (h:kh f arg Q) (hQ:∀r1,Q r1->R (AV.bool r1) S) :
  Ctr prog 62 [aI f,iZ arg] S R:=by
 refine au func62 rfl ntmps62 results62 krZ (λrg hrg=>?_)
 refine wk 11 λg1 h=>?_
 refine gtZ h O O (λhb h=>?_) (λhb h=>?_)
 ·refine wk 5 λh=>?_
  refine gtZ h O O (λhb1 h=>?_) (λhb1 h=>?_)
  ·refine wk 9 λh=>?_
   refine gfZ h O O (λhb2 h=>?_) (λhb2 h=>?_)
   ·refine wk 20 λh hg h=>?_
    exact uZ<|gv1 hrg<|hQ _ h
   refine wk 12 λh=>?_
   exact uZ<|gv1 hrg<|hQ _ h
  refine wk 16 λh=>?_
  exact uZ<|gv1 hrg<|hQ _ h
 refine wk 20 λh=>?_
 exact uZ<|gv1 hrg<|hQ _ h
theorem dJ {f:GFormula} {Q:Option Int->Prop} (h:db f Q) (hQ:∀r1,Q r1->R (cw 39 r1) S) :
  Ctr prog 29 [aI f] S R:=by
 refine au func29 rfl ntmps29 results29 krZ (λrg hrg=>?_)
 refine wk 6 λg1 h=>?_
 refine jgZ (γ:=Nat) h (λy=>aw [(1,.ptr rg 1 y.2 0 0),(12,.bool y.1)]) (λy=>stL S rg [(1,.arr 3 [aI f],y.2)]) (λy h=>?_) (λ_ h=>?_)
 ·obtain⟨x,g2⟩:=y
  refine cZ h O (λhb h=>?_) (λhb h=>?_)
  ·refine wk 5 λh=>?_
   exact uZ<|gv1 hrg<|hQ _ h
  refine wk 9 λh=>?_
  refine cZ h O (λhb1 h=>?_) (λhb1 h=>?_)
  ·refine wk 5 λh=>?_
   exact uZ<|gv1 hrg<|hQ _ h
  refine wk 10 λh=>?_
  refine lpZ h (λy=>aw [(1,.ptr rg 1 g2 0 0),(21,iZ (f.N.length:Int)),(22,iZ y)]) (λy=>stL S rg [(1,.arr 3 [aI f],g2)]) eCa (λx1 _ h=>?_)
  refine wk 5 λh=>?_
  refine cZ h O (λhb2 h=>?_) (λhb2 h=>?_)
  ·refine wk 12 λh=>?_
   refine am<|clZ O<|oe h λe h=>?_
   refine wk 7 λh=>?_
   refine cZ h O (λhb3 h=>?_) (λhb3 h=>?_)
   ·refine wk 5 λh=>?_
    exact uZ<|gv1 hrg<|hQ _ h
   exact wk 9999 trivial
  refine wk 7 λh=>?_
  refine am<|clZ O<|ru h λr h=>am<|uV O<|nZ<|cZ h O (λhb4 h=>?_) (λhb4 h=>?_)
  ·refine wk 5 λh=>?_
   exact uZ<|gv1 hrg<|hQ _ h
  refine wk 5 λh=>?_
  exact uZ<|gv1 hrg<|hQ _ h
 exact wk 9999 trivial
theorem rq {f:GFormula} {failed:Int} {Q:Option Int->Prop} (h:ke f failed Q) (hQ:∀r1,Q r1->R (cw 39 r1) S) :
  Ctr prog 63 [aI f,iZ failed] S R:=by
 refine au func63 rfl ntmps63 results63 krZ (λrg hrg=>?_)
 refine wk 9 λg1 h=>?_
 refine am<|clZ O<|dJ h λe h=>?_
 refine wk 7 λh=>?_
 refine cZ h O (λhb h=>?_) (λhb h=>?_)
 ·refine wk 5 λh=>?_
  exact uZ<|gv1 hrg<|hQ _ h
 refine kZ<|qZ<|jnZ h (λy=>aw [(19,.bool y)]) (λy=>stL S rg []) (λx h=>?_) (λ_ h=>?_)
 ·refine cZ h O (λhb1 h=>?_) (λhb1 h=>?_)
  ·refine wk 5 λh=>?_
   exact uZ<|gv1 hrg<|hQ _ h
  refine wk 5 λh=>?_
  exact uZ<|gv1 hrg<|hQ _ h
 refine wk 4 λh=>?_
 refine gfZ h O O (λhb2 h=>?_) (λhb2 h=>?_)
 ·refine wk 6 λh=>?_
  refine tkZ h (λhg h=>am<|uU O O hg ?_)
  exact wk 9999 trivial
 exact wk 9999 trivial
theorem qm {f:GFormula} {failed:Int} {Q:List Bool->Prop} (h:ji f failed Q) (hQ:∀r1,Q r1->R (eL AV.bool r1) S) :
  Ctr prog 64 [aI f,iZ failed] S R:=by
 refine au func64 rfl ntmps64 results64 krZ (λrg hrg=>?_)
 refine wk 15 λg1 h hg h=>?_
 refine tkZ h (λhg1 h=>wZ rg<|fg mf wC ok4 (enc:=AV.bool) (z':=false) pt (kk:=1) O O O hg1 (λg2=>?_))
 refine wk 10 λh=>?_
 refine lpZ h (λy=>aw [(1,iZ failed),(2,.ptr rg 2 g1 0 0),(5,.sl 1 rg 21 g2 0 y.2.length),(23,iZ ((Int.toNat f.A):Int)),(24,iZ y.1)]) (λy=>stL S rg [(2,.arr 3 [aI f],g1),(21,.arr 1 (List.map AV.bool y.2),g2)]) (canon (fZ<|fZ<|fc (VW.slen lzZ)<|fZ<|fZ<|fn)<|sc O<|sc O<|sn) (λy _ h=>?_)
 obtain⟨x,v⟩:=y
 refine wk 5 λh=>?_
 refine cZ h O (λhb h=>?_) (λhb h=>?_)
 ·refine wk 13 λh=>?_
  refine tkZ h (λhg2 h=>am<|uT O O hg2 ?_)
  exact wk 9999 trivial
 refine wk 10 λh=>?_
 refine lgZ h g2 (λy=>aw [(5,.sl 1 rg 21 y.2 0 y.1.2.length),(37,eL cz f.N),(38,iZ (f.N.length:Int)),(39,iZ y.1.1)]) (λy=>stL S rg [(21,.arr 1 (List.map AV.bool y.1.2),y.2)]) eCa (λy _ h=>?_)
 obtain⟨⟨x1,v1⟩,g3⟩:=y
 refine wk 5 λh=>?_
 refine cZ h O (λhb1 h=>?_) (λhb1 h=>?_)
 ·refine wk 23 λg4 h hg4 h=>?_
  refine lpZ h (λy=>aw [(5,.sl 1 rg 21 g3 0 v1.length),(8,.ptr rg 8 g4 0 0),(9,iZ y.1),(37,eL cz f.N),(38,iZ (f.N.length:Int)),(39,iZ x1),(44,cp ((at' f.N x1).M)),(45,iZ (((at' f.N x1).M).length:Int)),(46,iZ y.2)]) (λy=>stL S rg [(8,.arr 3 [cz (at' f.N x1)],g4),(21,.arr 1 (List.map AV.bool v1),g3)]) eCa (λy _ h=>?_)
  obtain⟨n,x2⟩:=y
  refine wk 5 λh=>?_
  refine cZ h O (λhb2 h=>?_) (λhb2 h=>?_)
  ·exact wk 9999 trivial
  refine wk 5 λh=>?_
  refine jgZ (γ:=Nat) h (λy=>aw [(5,.sl 1 rg 21 y.2 0 v1.length),(12,.bool y.1),(37,eL cz f.N),(38,iZ (f.N.length:Int)),(39,iZ x1)]) (λy=>stL S rg [(21,.arr 1 (List.map AV.bool v1),y.2)]) (λy h=>?_) (λ_ h=>?_)
  ·obtain⟨is,g5⟩:=y
   refine wk 3 λh=>?_
   refine wZ rg<|aV mf ok4 pt (es:=[.bool is]) O (kk:=1) O O O O O O (λg6=>tkZ h (λhg9 h=>wZ rg<|cu mf wC ok4 pt (es:=v1) (xs:=[is]) (enc:=AV.bool) (aZ 21 O) lzZ (bi (aZ 92 O) lzZ) (kk:=1) O O (λ_=>O) (λ_=>O) hg9 O (λ_=>bY) (λg7=>?_)))
   exact wk 9999 trivial
  refine wk 11 λh=>?_
  refine cZ h O (λhb4 h=>?_) (λhb4 h=>?_)
  ·exact wk 9999 trivial
  refine wk 5 λh=>?_
  refine cZ h O (λhb5 h=>?_) (λhb5 h=>?_)
  ·exact wk 9999 trivial
  refine wk 5 λh=>?_
  refine cZ h O (λhb6 h=>?_) (λhb6 h=>?_)
  ·exact wk 9999 trivial
  refine wk 5 λh=>?_
  refine cZ h O (λhb7 h=>?_) (λhb7 h=>?_)
  ·exact wk 9999 trivial
  refine wk 5 λh=>?_
  refine cZ h O (λhb8 h=>?_) (λhb8 h=>?_)
  ·exact wk 9999 trivial
  refine wk 5 λh=>?_
  refine cZ h O (λhb9 h=>?_) (λhb9 h=>?_)
  ·refine rZ<|mvZ (iZ n) O<|am<|F8 O O dZ ?_
   exact wk 9999 trivial
  exact wk 9999 trivial
 refine wk 6 λh=>?_
 exact uZ<|aj (v:=.sl 1 rg 21 g3 0 v1.length) O<|aq<|aP (k:=21) (xs:=List.map AV.bool v1) O (v':=eL AV.bool v1) (aL O)<|goZ hrg<|hQ _ h
theorem rr {f:GFormula} {failed:Int} {Q:Bool->Option Int->Prop} (h:kg f failed Q) (hQ:∀r1 r2,Q r1 r2->R (.tuple [AV.bool r1,cw 39 r2]) S) :
  Ctr prog 30 [aI f,iZ failed] S R:=by
 refine au func30 rfl ntmps30 results30 krZ (λrg hrg=>?_)
 refine wk 11 λg1 h=>?_
 refine am<|clZ O<|rq h λe h=>?_
 refine wk 7 λh=>?_
 refine cZ h O (λhb h=>?_) (λhb h=>?_)
 ·refine wk 6 λh=>?_
  exact uZ<|aj (v:=.bool false) O<|aj (v:=cw 39 e) O<|aq<|ar hrg eVw<|hQ _ _ h
 refine kZ<|qZ ?_
 obtain⟨r,hc,h⟩:=h
 refine tkZ h (λhg h=>Vc.drawn' mixed rg (gd [(2,pc (eL AV.bool r))]) krZ ?_)
 refine wk 2 λh=>?_
 refine dC (vs:=[aI f,iZ failed]) O (vZ<|vZ<|vn) (λ_=>qm hc (λ_ hr=>⟨by rw[hr],rfl⟩)) O ?_
 refine wk 2 λh=>?_
 refine dP O O<|fv mf sz4 dZ (λ_=>O) O O hg ?_
 refine wk 4 λh=>?_
 exact uZ<|aj (v:=.bool (at' r f.Z)) O<|aj (v:=.niface) O<|aq<|ar hrg eVw<|hQ _ _ h
theorem ma {f:GFormula} {Q:List Bool->Prop} (h:hH f Q) (hQ:∀r1,Q r1->R (eL AV.bool r1) S) :
  Ctr prog 112 [aI f] S R:=by
 refine au func112 rfl ntmps112 results112 krZ (λrg hrg=>?_)
 refine wk 13 λg1 h hg h=>?_
 refine tkZ h (λhg1 h=>wZ rg<|fg mf wC ok4 (enc:=AV.bool) (z':=false) pt (kk:=1) O O O hg1 (λg2=>?_))
 refine wk 20 λh hi h hg2 h=>?_
 refine lpZ h (λy=>aw [(1,.ptr rg 1 g1 0 0),(3,.sl 1 rg 13 g2 0 y.2.length),(4,iZ y.1)]) (λy=>stL S rg [(1,.arr 3 [aI f],g1),(13,.arr 1 (List.map AV.bool y.2),g2)]) (canon (fZ<|fc (VW.slen lzZ)<|fZ<|fn)<|sc O<|sc O<|sn) (λy _ h=>?_)
 obtain⟨i,mark⟩:=y
 refine wk 6 λh=>?_
 refine cZ h O (λhb h=>?_) (λhb h=>?_)
 ·refine wk 13 λh hg3 h hi1 h=>?_
  refine cZ h O (λhb1 h=>?_) (λhb1 h=>?_)
  ·refine wk 12 λh hg4 h=>?_
   refine lpZ h (λy=>aw [(1,.ptr rg 1 g1 0 0),(3,.sl 1 rg 13 g2 0 y.2.length),(4,iZ i),(38,cp ((at' f.N i).M)),(39,iZ (((at' f.N i).M).length:Int)),(40,iZ y.1)]) (λy=>stL S rg [(1,.arr 3 [aI f],g1),(13,.arr 1 (List.map AV.bool y.2),g2)]) eCa (λy _ h=>?_)
   obtain⟨x,mark1⟩:=y
   refine wk 5 λh=>?_
   refine cZ h O (λhb2 h=>?_) (λhb2 h=>?_)
   ·exact wk 9999 trivial
   exact wk 9999 trivial
  exact wk 9999 trivial
 refine wk 6 λh=>?_
 exact uZ<|aj (v:=.sl 1 rg 13 g2 0 mark.length) O<|aq<|aP (k:=13) (xs:=List.map AV.bool mark) O (v':=eL AV.bool mark) (aL O)<|goZ hrg<|hQ _ h
theorem sj {f:GFormula} {Q:Int->Int->Option Int->Prop} (h:lD f Q) (hQ:∀r1 r2 r3,Q r1 r2 r3->R (.tuple [iZ r1,iZ r2,cw 39 r3]) S) :
  Ctr prog 71 [aI f] S R:=by
 refine au func71 rfl ntmps71 results71 krZ (λrg hrg=>?_)
 refine wk 11 λg1 h=>?_
 refine am<|clZ O<|dJ h λe h=>?_
 refine wk 7 λh=>?_
 refine cZ h O (λhb h=>?_) (λhb h=>?_)
 ·refine wk 7 λh=>?_
  exact uZ<|aj (v:=iZ 0) O<|aj (v:=iZ 0) O<|aj (v:=cw 39 e) O<|aq<|ar hrg eVw<|hQ _ _ _ h
 refine kZ<|qZ<|qZ ?_
 obtain⟨r,hc,h⟩:=h
 refine tkZ h (λhg h=>Vc.drawn' mixed rg (gd [(1,pc (eL AV.bool r))]) krZ ?_)
 refine wk 1 λh=>?_
 refine dC (vs:=[aI f]) O (vZ<|vn) (λ_=>ma hc (λ_ hr=>⟨by rw[hr],rfl⟩)) O ?_
 refine wk 2 λh=>?_
 refine dP O O<|mQ mf sz4 dZ (λ_=>O) O (l:=f.A) (h:=(r.length:Int)) O O hg ?_
 refine wk 4 λh=>?_
 refine lpZ h (λy=>aw [(1,.ptr rg 1 g1 0 0),(2,iZ y.1),(3,iZ y.2.1),(17,eL AV.bool (fe r f.A (r.length:Int))),(18,iZ ((fe r f.A (r.length:Int)).length:Int)),(19,iZ y.2.2)]) (λy=>stL S rg [(1,.arr 3 [aI f],g1)]) eCa (λy _ h=>?_)
 obtain⟨nodes,args,x⟩:=y
 refine wk 5 λh=>?_
 refine cZ h O (λhb1 h=>?_) (λhb1 h=>?_)
 ·refine wk 15 λh hg1 h=>?_
  refine cZ h O (λhb2 h=>?_) (λhb2 h=>?_)
  ·refine wk 16 λh hg2 h hg3 h hg4 h=>?_
   refine stZ h (λargs1 hs h=>wZ rg<|bT (v:=iZ args1) (by subst hs;rfl) ?_)
   exact wk 9999 trivial
  exact wk 9999 trivial
 refine wk 9 λh=>?_
 exact uZ<|aj (v:=iZ nodes) O<|aj (v:=iZ args) O<|aj (v:=.niface) O<|aq<|ar hrg eVw<|hQ _ _ _ h
theorem si {f:GFormula} {Q:GFormula->Option Int->Prop} (h:lz f Q) (hQ:∀r1 r2,Q r1 r2->R (.tuple [aI r1,cw 39 r2]) S) :
  Ctr prog 73 [aI f] S R:=by
 refine au func73 rfl ntmps73 results73 krZ (λrg hrg=>?_)
 refine wk 10 λg1 g2 h=>?_
 refine am<|clZ O<|dJ h λe h=>?_
 refine wk 7 λh=>?_
 refine cZ h O (λhb h=>?_) (λhb h=>?_)
 ·refine dA<|am<|bx Ax Bh PD L8 xH (ps:=[]) O O (v:=.agg [iZ 0,.nil,iZ 0]) O ?_
  refine wk 4 λh=>?_
  exact uZ<|aO (aZ 2 O) xH dZ G6 O O (v:=.agg [iZ 0,.nil,iZ 0]) O<|aj (v:=cw 39 e) O<|aq<|ar hrg (VW.tupL<|vl' (VW.aggL<|vZ<|vl' (VW.nilL)<|vZ<|vn)<|vZ<|vn)<|hQ _ _ h
 refine wk 5 λh=>?_
 refine am<|bx Ax Bh PD L8 xH (ps:=[(0,iZ f.A)]) O O (v:=.agg [iZ f.A,.nil,iZ 0]) O ?_
 refine wk 11 λg3 h hg h=>?_
 refine tkZ h (λhg1 h=>wZ rg<|fg ge oS ok3 (enc:=iZ) (z':=0) gC (kk:=1) O O O hg1 (λg4=>?_))
 refine wk 10 λh=>?_
 refine lpZ h (λy=>aw [(1,.ptr rg 1 g1 0 0),(2,.ptr rg 2 g2 0 0),(5,.ptr rg 5 g3 0 0),(6,.sl 1 rg 29 g4 0 y.2.length),(31,iZ f.A),(32,iZ y.1)]) (λy=>stL S rg [(1,.arr 3 [aI f],g1),(2,.arr 3 [.agg [iZ 0,.nil,iZ 0]],g2),(5,.arr 3 [.agg [iZ f.A,.nil,iZ 0]],g3),(29,.arr 1 (List.map iZ y.2),g4)]) (canon (fZ<|fZ<|fZ<|fc (VW.slen lzZ)<|fZ<|fZ<|fn)<|od O O O O<|sn) (λy _ h=>?_)
 obtain⟨x,to⟩:=y
 refine wk 5 λh=>?_
 refine cZ h O (λhb1 h=>?_) (λhb1 h=>?_)
 ·exact wk 9999 trivial
 refine xsZ<|qZ<|qZ ?_
 obtain⟨r,hc,h⟩:=h
 refine tkZ h (λhg3 h=>Vc.drawn' mixed rg (gd [(1,pc (eL AV.bool r))]) krZ ?_)
 refine wk 1 λh=>?_
 refine dC (vs:=[aI f]) O (vZ<|vn) (λ_=>ma hc (λ_ hr=>⟨by rw[hr],rfl⟩)) O ?_
 refine wk 2 λh=>?_
 refine dP O O<|mQ mf sz4 dZ (λ_=>O) O (l:=f.A) (h:=(r.length:Int)) O O hg3 ?_
 refine wk 4 λh=>?_
 refine Vc.matB 5 1 96 3 (b:=λg5=>.agg [iZ f.A,.sl 3 rg 96 g5 0 0,iZ 0]) O O dZ dZ O (λg5=>lgZ h g5 (λy=>aw [(1,.ptr rg 1 g1 0 0),(2,.ptr rg 2 g2 0 0),(5,.ptr rg 5 g3 0 0),(6,.sl 1 rg 29 g4 0 y.1.2.1.length),(44,eL AV.bool (fe r f.A (r.length:Int))),(45,iZ ((fe r f.A (r.length:Int)).length:Int)),(46,iZ y.1.1)]) (λy=>stL S rg [(1,.arr 3 [aI f],g1),(2,.arr 3 [.agg [iZ 0,.nil,iZ 0]],g2),(5,.arr 3 [.agg [iZ f.A,.sl 3 rg 96 y.2 0 y.1.2.2.length,iZ 0]],g3),(29,.arr 1 (List.map iZ y.1.2.1),g4),(96,.arr 3 (List.map cz y.1.2.2),y.2)]) (EWk.trans (EWk.ow (k:=5) (o':=.arr 3 [.agg [iZ f.A,.sl 3 rg 96 g5 0 ([].length),iZ 0]]) O<|OW.one<|VWL.vwc<|vZ<|vl' (VW.slen lzZ)<|vZ<|vn)<|canon (gb<|fZ<|fZ<|fZ<|fn)<|od O O O O<|sc O<|sn) (λy _ h=>?_))
 obtain⟨⟨x1,to1,x2⟩,g6⟩:=y
 refine wk 5 λh=>?_
 refine cZ h O (λhb2 h=>?_) (λhb2 h=>?_)
 ·refine wk 17 λh hg4 h=>?_
  refine cZ h O (λhb3 h=>?_) (λhb3 h=>?_)
  ·exact wk 9999 trivial
  refine wk 17 λg7 h hg6 h=>?_
  refine am<|bx Cx yB aad V_ Fz (ps:=[(0,iZ ((at' f.N x1).F)),(1,iZ ((at' f.N x1).K))]) O O (v:=.agg [iZ ((at' f.N x1).F),iZ ((at' f.N x1).K),.nil]) O ?_
  refine wk 12 λg8 h=>?_
  refine Vc.matB 11 2 77 1 (b:=λg9=>.agg [iZ ((at' f.N x1).F),iZ ((at' f.N x1).K),.sl 1 rg 77 g9 0 0]) O O dZ dZ O (λg9=>lgZ h g9 (λy=>aw [(1,.ptr rg 1 g1 0 0),(2,.ptr rg 2 g2 0 0),(5,.ptr rg 5 g3 0 0),(6,.sl 1 rg 29 g4 0 to1.length),(8,iZ x1),(11,.ptr rg 11 g8 0 0),(44,eL AV.bool (fe r f.A (r.length:Int))),(45,iZ ((fe r f.A (r.length:Int)).length:Int)),(46,iZ x1),(64,cp ((at' f.N x1).M)),(65,iZ (((at' f.N x1).M).length:Int)),(66,iZ y.1.1)]) (λy=>stL S rg [(1,.arr 3 [aI f],g1),(2,.arr 3 [.agg [iZ 0,.nil,iZ 0]],g2),(5,.arr 3 [.agg [iZ f.A,.sl 3 rg 96 g6 0 x2.length,iZ 0]],g3),(11,.arr 3 [.agg [iZ ((at' f.N x1).F),iZ ((at' f.N x1).K),.sl 1 rg 77 y.2 0 y.1.2.length]],g8),(29,.arr 1 (List.map iZ to1),g4),(77,.arr 1 (List.map iZ y.1.2),y.2),(96,.arr 3 (List.map cz x2),g6)]) (EWk.trans (EWk.ow (k:=11) (o':=.arr 3 [.agg [iZ ((at' f.N x1).F),iZ ((at' f.N x1).K),.sl 1 rg 77 g9 0 ([].length)]]) O (OW.one<|VWL.vwc<|vZ<|vZ<|vl' (VW.slen lzZ)<|vn)) (canon (gb<|gb<|gb<|fn)<|od O O O O<|sc O<|sc O<|sc O<|sn)) (λy _ h=>?_))
  obtain⟨⟨x3,x4⟩,g10⟩:=y
  refine wk 5 λh=>?_
  refine cZ h O (λhb4 h=>?_) (λhb4 h=>?_)
  ·refine wk 9 λh hg7 h=>?_
   refine tkZ h (λhi1 h=>tkZ h (λhg8 h=>Vc.drawn' mixed rg (λ_=>iV) krZ ?_))
   refine wk 4 λh=>?_
   refine dP O O<|aS ge sz3 dZ O O hi1 ?_
   refine wk 1 λh=>?_
   refine dL (E:=([],[(rg,76)])) O O zSm (cfo krZ<|cfa zAp eCf) (aV ge ok3 gC (es:=[iZ (at' to1<|at' ((at' f.N x1).M) x3)]) O (kk:=1) O O O O O O (λg11=>dL (E:=([(rg,76)],[(rg,77)])) O O zSm eCf (cu ge oS ok3 gC (es:=x4) (xs:=[(at' to1<|at' ((at' f.N x1).M) x3)]) (enc:=iZ) (aZ 77 O) lzZ (bi (aZ 76 O) lzZ) (kk:=1) O O (λ_=>O) (λ_=>O) hg8 O (λ_=>bY) (λg12=>?_))))
   exact wk 9999 trivial
  refine wk 20 λh hg10 h hg11 h hi2 h=>?_
  refine am<|cG (aZ 11 O) Fz dZ UZ O O (v:=.agg [iZ ((at' f.N x1).F),iZ ((at' f.N x1).K),.sl 1 rg 77 g10 0 x4.length]) O (dr (aW (k:=77) (xs:=List.map iZ x4) O (es:=[(1,.ptr rg 1 g1 0 0),(2,.ptr rg 2 g2 0 0),(5,.ptr rg 5 g3 0 0),(6,.sl 1 rg 29 g4 0 to1.length),(44,eL AV.bool (fe r f.A (r.length:Int))),(45,iZ ((fe r f.A (r.length:Int)).length:Int)),(46,iZ x1),(93,.sl 3 rg 96 g6 0 x2.length),(94,.agg [iZ ((at' f.N x1).F),iZ ((at' f.N x1).K),cp x4])]) (fZ<|fZ<|fZ<|fc (fT O)<|fZ<|fZ<|fZ<|fc (fT O)<|fc (VW.aggL<|vZ<|vZ<|vl' (aL O)<|vn)<|fn) (m:=[(1,.arr 3 [aI f],g1),(2,.arr 3 [.agg [iZ 0,.nil,iZ 0]],g2),(5,.arr 3 [.agg [iZ f.A,.sl 3 rg 96 g6 0 x2.length,iZ 0]],g3),(29,.arr 1 (List.map iZ<|aN to1 (f.A+x1)<|f.A+(x2.length:Int)),g4),(96,.arr 3 (List.map cz x2),g6)]) (od O O O O<|sc O<|sn)) (wZ rg<|aV Ft HO yB (es:=[.agg [iZ ((at' f.N x1).F),iZ ((at' f.N x1).K),cp x4]]) O (kk:=3) O O O O O O (λg14=>tkZ h (λhg12 h=>wZ rg<|cu Ft PB HO yB (es:=x2) (xs:=[(⟨(at' f.N x1).F,(at' f.N x1).K,x4⟩:GNode)]) (enc:=cz) (aZ 96 O) lzZ (bi (aZ 95 O) lzZ) (kk:=3) O O (λ_=>O) (λ_=>O) hg12 O (λ_=>bY) (λg15=>?_)))))
  exact wk 9999 trivial
 refine wk 13 λh hi3 h=>?_
 refine am<|cG (aZ 5 O) xH dZ G6 O O (v:=.agg [iZ f.A,.sl 3 rg 96 g6 0 x2.length,iZ (at' to1 f.Z)]) O ?_
 refine wk 3 λh=>?_
 exact uZ<|aO (aZ 2 O) xH dZ G6 O O (v:=.agg [iZ f.A,.sl 3 rg 96 g6 0 x2.length,iZ (at' to1 f.Z)]) O<|aj (v:=.niface) O<|aq<|aP (k:=96) (xs:=List.map cz x2) O (v':=.tuple [.agg [iZ f.A,eL cz x2,iZ (at' to1 f.Z)],.niface]) (VW.tupL<|vl' (VW.aggL<|vZ<|vl' (aL O)<|vZ<|vn)<|vZ<|vn)<|ar hrg eVw<|hQ _ _ h
end Go.Proofs.YtcmagbhiioheeaaGreatDoor
namespace Go.Proofs.YtcmagbhiioheeaaGreatDoor
open Go.Gg Tryz
set_option maxRecDepth 100000
set_option maxHeartbeats 2000000
variable {S:St} {R:AV->St->Prop}
theorem kn {c:GChain} {s:Int} {Q:Bool->Prop} (h:gW c s Q) (hQ:∀r1,Q r1->R (AV.bool r1) S) :
  Ctr prog 80 [bq c,iZ s] S R:=by
 refine au func80 rfl ntmps80 results80 krZ (λrg hrg=>?_)
 refine wk 10 λg1 h=>?_
 refine gtZ h O O (λhb h=>?_) (λhb h=>?_)
 ·refine wk 10 λh=>?_
  exact uZ<|gv1 hrg<|hQ _ h
 refine wk 6 λh=>?_
 exact uZ<|gv1 hrg<|hQ _ h
theorem sv {a:GMove} {b:GMove} {Q:Bool->Prop} (h:lK a b Q) (hQ:∀r1,Q r1->R (AV.bool r1) S) :
  Ctr prog 81 [cX a,cX b] S R:=by
 refine au func81 rfl ntmps81 results81 krZ (λrg hrg=>?_)
 refine wk 14 λg1 g2 h=>?_
 refine gfZ h O O (λhb h=>?_) (λhb h=>?_)
 ·refine wk 11 λh=>?_
  refine gtZ h O O (λhb1 h=>?_) (λhb1 h=>?_)
  ·refine wk 14 λh=>?_
   exact uZ<|gv1 hrg<|hQ _ h
  refine wk 9 λh=>?_
  exact uZ<|gv1 hrg<|hQ _ h
 refine wk 14 λh=>?_
 exact uZ<|gv1 hrg<|hQ _ h
theorem ko {c:GChain} {Q:Option Int->Prop} (h:eb c Q) (hQ:∀r1,Q r1->R (cw 39 r1) S) :
  Ctr prog 40 [bq c] S R:=by
 refine au func40 rfl ntmps40 results40 krZ (λrg hrg=>?_)
 refine wk 6 λg1 h=>?_
 refine jgZ (γ:=Nat) h (λy=>aw [(1,.ptr rg 1 y.2 0 0),(12,.bool y.1)]) (λy=>stL S rg [(1,.arr 4 [bq c],y.2)]) (λy h=>?_) (λ_ h=>?_)
 ·obtain⟨x,g2⟩:=y
  refine cZ h O (λhb h=>?_) (λhb h=>?_)
  ·refine wk 5 λh=>?_
   exact uZ<|gv1 hrg<|hQ _ h
  refine wk 11 λh=>?_
  refine cZ h O (λhb1 h=>?_) (λhb1 h=>?_)
  ·refine wk 5 λh=>?_
   exact uZ<|gv1 hrg<|hQ _ h
  refine wk 7 λh=>?_
  refine am<|clZ O<|kn h λr h=>am<|uV O<|nZ<|cZ h O (λhb2 h=>?_) (λhb2 h=>?_)
  ·refine wk 5 λh=>?_
   exact uZ<|gv1 hrg<|hQ _ h
  refine wk 10 λh=>?_
  refine lgZ h g2 (λy=>aw [(1,.ptr rg 1 y.2 0 0),(28,eL cX c.V),(29,iZ (c.V.length:Int)),(30,iZ y.1)]) (λy=>stL S rg [(1,.arr 4 [bq c],y.2)]) eCa (λy _ h=>?_)
  obtain⟨x1,g3⟩:=y
  refine wk 5 λh=>?_
  refine cZ h O (λhb3 h=>?_) (λhb3 h=>?_)
  ·refine wk 13 λg4 h hg h=>?_
   refine jgZ (γ:=Nat×Nat) h (λy=>aw [(1,.ptr rg 1 y.2.1 0 0),(3,iZ x1),(4,.ptr rg 4 y.2.2 0 0),(28,eL cX c.V),(29,iZ (c.V.length:Int)),(30,iZ x1),(35,.bool y.1)]) (λy=>stL S rg [(1,.arr 4 [bq c],y.2.1),(4,.arr 5 [cX (at' c.V x1)],y.2.2)]) (λy h=>?_) (λ_ h=>?_)
   ·obtain⟨x2,⟨g5,g6⟩⟩:=y
    refine cZ h O (λhb4 h=>?_) (λhb4 h=>?_)
    ·refine wk 5 λh=>?_
     exact uZ<|gv1 hrg<|hQ _ h
    refine wk 9 λh=>?_
    refine cZ h O (λhb5 h=>?_) (λhb5 h=>?_)
    ·refine wk 5 λh=>?_
     exact uZ<|gv1 hrg<|hQ _ h
    refine jgZ (γ:=Nat×Nat) h (λy=>aw [(1,.ptr rg 1 y.2.1 0 0),(3,iZ x1),(4,.ptr rg 4 y.2.2 0 0),(28,eL cX c.V),(29,iZ (c.V.length:Int)),(30,iZ x1),(56,.bool y.1)]) (λy=>stL S rg [(1,.arr 4 [bq c],y.2.1),(4,.arr 5 [cX (at' c.V x1)],y.2.2)]) (λy h=>?_) (λ_ h=>?_)
    ·obtain⟨x3,⟨g7,g8⟩⟩:=y
     refine cZ h O (λhb6 h=>?_) (λhb6 h=>?_)
     ·refine wk 5 λh=>?_
      exact uZ<|gv1 hrg<|hQ _ h
     refine jgZ (γ:=Nat) h (λy=>aw [(1,.ptr rg 1 y.2 0 0),(28,eL cX c.V),(29,iZ (c.V.length:Int)),(30,iZ x1),(68,.bool y.1)]) (λy=>stL S rg [(1,.arr 4 [bq c],y.2)]) (λy h=>?_) (λ_ h=>?_)
     ·obtain⟨x4,g9⟩:=y
      refine cZ h O (λhb7 h=>?_) (λhb7 h=>?_)
      ·refine wk 5 λh=>?_
       exact uZ<|gv1 hrg<|hQ _ h
      exact wk 9999 trivial
     refine bcZ h (λhb8 h=>?_) (λhb8 h=>?_)
     ·refine tkZ h (λhg2 h=>tkZ h (λhg3 h=>?_))
      obtain⟨r1,hc,h⟩:=h
      refine Vc.drawn' mixed rg (gd [(10,pc (.bool r1))]) krZ ?_
      refine wk 10 λh=>?_
      refine dP O O<|jY O O hg2<|dGT O O O<|dP O O<|fv yL Ay dZ (λ_=>O) O O hg3 ?_
      refine wk 5 λh=>?_
      refine dC (vs:=[cX (at' c.V<|x1-1),cX (at' c.V x1)]) O (vZ<|vZ<|vn) (λ_=>sv hc (λ_ hr=>⟨by rw[hr],rfl⟩)) O ?_
      exact wk 9999 trivial
     exact wk 9999 trivial
    refine rZ<|am<|Dj so O<|am<|cG (aZ 4 O) bf dZ dT O O (v:=af ((at' c.V x1).X)) O (am<|clZ O<|ey h λr2 h=>?_)
    refine wk 2 λh=>?_
    refine gfZ h O O (λhb9 h=>?_) (λhb9 h=>?_)
    ·refine wk 2 λh=>?_
     refine am<|cG (aZ 4 O) bf dZ dT O O (v:=af ((at' c.V x1).X)) O (gTZ O O hb9<|am<|clZ O<|bw h λr3 h=>?_)
     exact wk 9999 trivial
    exact wk 9999 trivial
   refine wk 4 λh=>?_
   refine am<|clZ O<|kn h λr4 h=>?_
   refine wk 2 λh=>?_
   refine gfZ h O O (λhb10 h=>?_) (λhb10 h=>?_)
   ·refine wk 6 λh=>?_
    refine am<|clZ O<|kn h λr5 h=>?_
    exact wk 9999 trivial
   exact wk 9999 trivial
  refine wk 5 λh=>?_
  exact uZ<|gv1 hrg<|hQ _ h
 exact wk 9999 trivial
end Go.Proofs.YtcmagbhiioheeaaGreatDoor
namespace Go.Proofs.YtcmagbhiioheeaaGreatDoor
open Go.Gg Tryz
set_option maxRecDepth 100000
set_option maxHeartbeats 2000000
variable {S:St} {R:AV->St->Prop}
theorem r_ {a:List (List GRat)} {Q:Option Int->Prop} (h:iF a Q) (hQ:∀r1,Q r1->R (cw 39 r1) S) :
  Ctr prog 83 [eL (eL af) a] S R:=by
 refine au func83 rfl ntmps83 results83 krZ (λrg hrg=>?_)
 refine wk 5 λh=>?_
 refine jnZ h (λy=>aw [(0,eL (eL af) a),(14,.bool y)]) (λy=>stL S rg []) (λx h=>?_) (λ_ h=>?_)
 ·refine cZ h O (λhb h=>?_) (λhb h=>?_)
  ·refine wk 5 λh=>?_
   exact uZ<|gv1 hrg<|hQ _ h
  refine kZ<|qZ<|jnZ h (λy=>aw [(0,eL (eL af) a),(25,.bool y)]) (λy=>stL S rg []) (λx1 h=>?_) (λ_ h=>?_)
  ·refine cZ h O (λhb1 h=>?_) (λhb1 h=>?_)
   ·refine wk 5 λh=>?_
    exact uZ<|gv1 hrg<|hQ _ h
   refine wk 9 λh=>?_
   refine lpZ h (λy=>aw [(0,eL (eL af) a),(27,eL (eL af) a),(28,iZ (a.length:Int)),(29,iZ y)]) (λy=>stL S rg []) eCa (λx2 _ h=>?_)
   refine wk 5 λh=>?_
   refine cZ h O (λhb2 h=>?_) (λhb2 h=>?_)
   ·refine wk 19 λh hg h hg1 h=>?_
    refine cZ h O (λhb3 h=>?_) (λhb3 h=>?_)
    ·refine wk 5 λh=>?_
     exact uZ<|gv1 hrg<|hQ _ h
    exact wk 9999 trivial
   refine wk 5 λh=>?_
   exact uZ<|gv1 hrg<|hQ _ h
  exact wk 9999 trivial
 exact wk 9999 trivial
theorem oL {a:List (List GRat)} (q k1:Nat) {Q:List (List GRat)->Prop} {S:St} {R:AV->St->Prop} (h:eJ a Q) (hQ:∀r2 rf gs g1,rf≠q->(∀k,S rf k=none)->Q r2->R (.sl 1 q k1 g1 0 r2.length) (stX (bR S rf 3 af gs r2) [(q,k1,.arr 1 (bH rf 3 gs r2),g1)])) :
  Ctr prog 84 [eL (eL af) a] S R:=by
 unfold eJ at h
 refine au func84 rfl ntmps84 results84 krZ (λrg hrg=>?_)
 refine wk 8 λh=>?_
 refine tkZ h (λhg h=>wZ rg<|fW iR Co F5 yD (kk:=1) O O O hg (λg1=>Wl.famQ 3 af q (K:=10) O dZ (λrf gs hrf qrf nrf=>?_)))
 refine wk 10 λh=>?_
 refine lgZ h gs (λy=>aw [(3,.sl 1 rg 10 g1 0 y.1.2.length),(11,eL (eL af) a),(12,iZ (a.length:Int)),(13,iZ y.1.1)]) (λy=>stL (bR S rf 3 af y.2 y.1.2) rg [(10,.arr 1 (bH rf 3 y.2 y.1.2),g1)]) (canon (fc (VW.slen lzZ)<|fZ<|fZ<|fZ<|fn)<|sc O<|sn) (λy _ h=>?_)
 obtain⟨⟨x,out⟩,g2⟩:=y
 refine wk 5 λh=>?_
 refine cZ h O (λhb h=>?_) (λhb h=>?_)
 ·refine wk 18 λh hg1 h=>?_
  refine lgZ h g2 (λy=>aw [(3,.sl 1 rg 10 g1 0 y.1.2.length),(4,iZ x),(11,eL (eL af) a),(12,iZ (a.length:Int)),(13,iZ x),(18,eL af (at' a x)),(19,iZ ((at' a x).length:Int)),(20,iZ y.1.1)]) (λy=>stL (bR S rf 3 af y.2 y.1.2) rg [(10,.arr 1 (bH rf 3 y.2 y.1.2),g1)]) eCa (λy _ h=>?_)
  obtain⟨⟨x1,out1⟩,g3⟩:=y
  refine wk 5 λh=>?_
  refine cZ h O (λhb1 h=>?_) (λhb1 h=>?_)
  ·refine wk 10 λg4 h hg2 h=>?_
   refine tkZ h (λhi h=>?_)
   obtain⟨r,hc,h⟩:=h
   refine tkZ h (λhg3 h=>tkZ h (λhi1 h=>Vc.drawn' mixed rg (gd [(8,pc (af r))]) krZ ?_))
   refine wk 4 λh=>?_
   refine dP O O<|aS iR dh dZ O O hi<|dL (E:=([(rg,10)],[])) O O zSm eCf (cy (aZ 10 O) dh jR O (bn hi lzZ) ?_)
   refine wk 1 λh=>?_
   refine dP O O<|bx mg cx kw kp bf (ps:=[]) O O (v:=.agg [.bool false,.nil,.nil]) O<|dC (vs:=[af (at' (at' a x) x1),af (⟨false,[],[]⟩:GRat)]) O (vZ<|vl' (VW.aggL<|vZ<|vl' (VW.nilL)<|vl' (VW.nilL)<|vn)<|vn) (λ_=>bE hc (λ_ hr=>⟨by rw[hr],rfl⟩)) O<|dL (E:=([],[(rg,33)])) O O zSm (cfo krZ<|cfa zAp eCf) (aV df iT cx (es:=[af r]) O (kk:=3) O O O O O O (λg5=>dL (E:=([(rg,33)],[(rf,Int.toNat x)])) O O zSm eCf (AO hrf df iM iT cx (bn hi lzZ) O lzZ (xs:=[r]) (enc:=af) (bi (aZ 33 O) lzZ) (kk:=3) O O (λ_=>O) (λ_=>O) hg3 O (λg6=>dP O O<|aS iR dh dZ O O hi1<|dL (E:=([],[(rg,10)])) O O zSm eCf (oD (aZ 10 O) dh O O (bn hi1 lzZ) (l:=(at' out1 x++[r])) O bY ?_)))))
   exact wk 9999 trivial
  exact wk 9999 trivial
 refine wk 6 λh=>?_
 exact uZ<|aj (v:=.sl 1 rg 10 g1 0 out.length) O<|aq<|vG q (GC hrf hrg) [(10,g1,.arr 1 (bH rf 3 g2 out),k1)] ⟨rfl,rfl,trivial⟩ (λγ=>.sl 1 q k1 (γ 0) 0 out.length) (λγ=>[(q,k1,.arr 1 (bH rf 3 g2 out),γ 0)]) (λγ=>CJ CK Xj) (λγ=>CL 0 O) (λγ=>hQ _ _ _ (γ 0) qrf nrf h)
theorem qj {f:GRat} {row:List GRat} {from1:List GRat} {q0 k0 g0 q1 k1 g1:Nat} (hdk:DK [(q0,k0),(q1,k1)]) {Q:List GRat->Prop} (h:fz f row from1 Q) (hQ:∀r1,Q r1->R (.tuple []) (stX S [(q0,k0,.arr 3 (List.map af r1),g0),(q1,k1,.arr 3 (List.map af from1),g1)])) :
  Ctr prog 122 [.sl 3 q0 k0 g0 0 row.length,.sl 3 q1 k1 g1 0 from1.length,af f] (stX S [(q0,k0,.arr 3 (List.map af row),g0),(q1,k1,.arr 3 (List.map af from1),g1)]) R:=by
 refine au func122 rfl ntmps122 results122 krZ (λrg hrg=>?_)
 have hdx:DX [(q0,k0,.arr 3 (List.map af row),g0),(q1,k1,.arr 3 (List.map af from1),g1)]:=hdk
 have hfr:=λX' e=>bF (S:=S) (rg:=rg) (X:=[(q0,k0,.arr 3 (List.map af row),g0),(q1,k1,.arr 3 (List.map af from1),g1)]) (X':=X') e hrg
 have hne0:=ak hdx hrg 0 rfl
 have hne1:=ak hdx hrg 1 rfl
 refine wk 11 λg2 h=>?_
 refine lpZ h (λy=>aw [(0,.sl 3 q0 k0 g0 0 y.2.length),(1,.sl 3 q1 k1 g1 0 from1.length),(5,.ptr rg 5 g2 0 0),(8,iZ (row.length:Int)),(9,iZ y.1)]) (λy=>stL (stX S [(q0,k0,.arr 3 (List.map af y.2),g0),(q1,k1,.arr 3 (List.map af from1),g1)]) rg [(5,.arr 3 [af f],g2)]) eCa (λy _ h=>?_)
 obtain⟨x,row1⟩:=y
 refine wk 5 λh=>?_
 refine cZ h O (λhb h=>?_) (λhb h=>?_)
 ·refine wk 14 λh hi h=>?_
  refine am<|clZ O<|bw h λr h=>am<|Ga O O<|nZ<|cZ h O (λhb1 h=>?_) (λhb1 h=>?_)
  ·refine tkZ h (λhi1 h=>tkZ h (λhi2 h=>?_))
   obtain⟨r1,hc,h⟩:=h
   obtain⟨r2,hc1,h⟩:=h
   refine tkZ h (λhi3 h=>Vc.drawn' mixed rg (gd [(11,pc (af r1)),(12,pc (af r2))]) krZ ?_)
   refine wk 4 λh=>?_
   refine dP O O<|aS df bf dZ O O hi1 ?_
   refine wk 4 λh=>?_
   refine dP O O<|aS df bf dZ O O hi2 ?_
   refine wk 1 λh=>?_
   refine dC (vs:=[af f,af (at' from1 x)]) O (vZ<|vZ<|vn) (λ_=>ee hc (λ_ hr=>⟨by rw[hr],rfl⟩)) O<|dC (vs:=[af (at' row1 x),af r1]) O (vZ<|vZ<|vn) (λ_=>dm hc1 (λ_ hr=>⟨by rw[hr],rfl⟩)) O<|dP O O<|aS df bf dZ O O hi3<|dL (E:=([],[(q0,k0)])) O O zSm eCf (dH (atX hne0 hdx 0 O) bf dZ (x':=r2) (λ_=>O) O O (bn hi3 lzZ) O O (bp hne0 hdx 0 O O) ?_)
   exact wk 9999 trivial
  exact wk 9999 trivial
 exact xsZ<|gv0 (hfr _ O)<|hQ _ h
theorem oK {a:List (List GRat)} {rf q k g:Nat} {gs:Nat->Nat} {Q:List (List GRat)->List Int->Prop} {S:St} {R:AV->St->Prop} (hq:rf≠q) (nrf:∀i,S rf i=none) (hqk:S q k=none) (h:eI a Q) (hQ:∀r1 r2,Q r1 r2->R (.tuple [eL (eL af) r1,cp r2]) S) :
  Ctr prog 85 [.sl 1 q k g 0 a.length] (stX (bR S rf 3 af gs a) [(q,k,.arr 1 (bH rf 3 gs a),g)]) R:=by
 unfold eI at h
 refine au func85 rfl ntmps85 results85 krZ (λrg hrg=>?_)
 refine Vc.famIn 900000 hrg hq hqk (λg1=>[(0,.sl 1 rg 900000 g1 0 a.length)]) (λ_=>by exact⟨CL 0 rfl,trivial⟩) (λhrf g1=>?_) rfl
 replace hrg:=Dg hq hrg
 refine wk 9 λh=>?_
 refine jgZ (γ:=Nat×Nat×(Nat->Nat)) h (λy=>aw [(0,.sl 1 rg 900000 y.2.2.1 0 y.1.2.length),(4,.sl 1 rg 137 y.2.1 0 y.1.1.length)]) (λy=>stL (bR S rf 3 af y.2.2.2 y.1.2) rg [(137,.arr 1 (List.map iZ y.1.1),y.2.1),(900000,.arr 1 (bH rf 3 y.2.2.2 y.1.2),y.2.2.1)]) (λy h=>?_) (λ_ h=>?_)
 ·obtain⟨⟨pivots,a1⟩,⟨g2,g3,g4⟩⟩:=y
  refine wk 5 λh=>?_
  refine tkZ h (λhsl h=>am<|zu iR dh dZ O (h:=(pivots.length:Int)) O hsl ?_)
  refine wk 4 λh=>?_
  refine uZ<|aj (v:=.sl 1 rg 900000 g3 0 (Int.toNat (pivots.length:Int))) O (aj (v:=.sl 1 rg 137 g2 0 pivots.length) O<|aq<|rm hrf nrf (K:=900000) O<|De (Int.toNat (pivots.length:Int)) (aZ 900000 O) O bY ?_)
  exact cN.wk (v':=.tuple [.sl 1 rg 900000 g3 0 ((List.take (Int.toNat (pivots.length:Int)) a1).length),.sl 1 rg 137 g2 0 pivots.length]) (Wk.of<|VW.tupL<|vl' (VW.slen<|by rw[List.length_take];omega)<|vZ<|vn) (aP (k:=137) (xs:=List.map iZ pivots) O (v':=.tuple [.sl 1 rg 900000 g3 0 ((List.take (Int.toNat (pivots.length:Int)) a1).length),cp pivots]) (VW.tupL<|vl' (fT O)<|vl' (aL O)<|vn) (aP (k:=900000) (xs:=List.map (eL af) (List.take (Int.toNat (pivots.length:Int)) a1)) O (v':=.tuple [eL (eL af) (List.take (Int.toNat (pivots.length:Int)) a1),cp pivots]) (VW.tupL<|vl' (aL O)<|vZ<|vn) (ar hrg eVw<|hQ _ _ h)))
 refine wk 5 λh=>?_
 refine Vc.mat 4 137 1 O dZ (λg5=>lgZ h (g5,g1,gs) (λy=>aw [(0,.sl 1 rg 900000 y.2.2.1 0 y.1.2.2.length),(4,.sl 1 rg 137 y.2.1 0 y.1.2.1.length),(5,iZ y.1.1)]) (λy=>stL (bR S rf 3 af y.2.2.2 y.1.2.2) rg [(137,.arr 1 (List.map iZ y.1.2.1),y.2.1),(900000,.arr 1 (bH rf 3 y.2.2.2 y.1.2.2),y.2.2.1)]) (canon (fZ<|fc (VW.slen lzZ)<|fZ<|fn)<|sc O<|sc O<|sn) (λy _ h=>?_))
 obtain⟨⟨k1,pivots1,a2⟩,⟨g6,g7,g8⟩⟩:=y
 refine wk 6 λh hi h=>?_
 refine wZ rg<|cy (aZ 900000 O) dh jR O (bn hi lzZ) ?_
 refine wk 3 λh=>?_
 refine gtZ h O O (λhb h=>?_) (λhb h=>?_)
 ·refine wk 11 λh=>?_
  refine cZ h O (λhb1 h=>?_) (λhb1 h=>?_)
  ·refine wk 14 λh=>?_
   refine jgZ (γ:=Nat×Nat×(Nat->Nat)) h (λy=>aw [(0,.sl 1 rg 900000 y.2.2.1 0 y.1.2.length),(4,.sl 1 rg 137 y.2.1 0 pivots1.length),(5,iZ k1),(6,iZ (pivots1.length:Int)),(7,iZ y.1.1)]) (λy=>stL (bR S rf 3 af y.2.2.2 y.1.2) rg [(137,.arr 1 (List.map iZ pivots1),y.2.1),(900000,.arr 1 (bH rf 3 y.2.2.2 y.1.2),y.2.2.1)]) (λy h=>?_) (λ_ h=>?_)
   ·obtain⟨⟨row,a3⟩,⟨g9,g10,g11⟩⟩:=y
    refine wk 8 λh=>?_
    refine cZ h O (λhb2 h=>?_) (λhb2 h=>?_)
    ·exact wk 9999 trivial
    refine kZ<|qZ<|tkZ h (λhi1 h=>tkZ h (λhi2 h=>tkZ h (λhi3 h=>tkZ h (λhi4 h=>Vc.drawn' mixed rg (λ_=>iV) krZ ?_))))
    refine wk 6 λh=>?_
    refine dP O O<|aS iR dh dZ O O hi1<|dL (E:=([(rg,900000)],[])) O O zSm eCf (cy (aZ 900000 O) dh jR O (bn hi1 lzZ) ?_)
    refine wk 2 λh=>?_
    refine dP O O<|aS iR dh dZ O O hi2<|dL (E:=([(rg,900000)],[])) O O zSm (cfa zAp eCf) (cy (aZ 900000 O) dh jR O (bn hi2 lzZ)<|dP O O<|aS iR dh dZ O O hi3<|dL (E:=([],[(rg,900000)])) O O zSm eCf (zs (aZ 900000 O) dh O (by simp only[rv,List.length_set];exact bn hi3 lzZ) (v:=.sl 3 rf (Int.toNat row) (g11<|Int.toNat row) 0 ((at' a3 row).length)) O O O Cg bY (dP O O<|aS iR dh dZ O O hi4<|dL (E:=([],[(rg,900000)])) O O zSm eCf (zs (aZ 900000 O) dh O (by simp only[rv,List.length_set];exact bn hi4 lzZ) (v:=.sl 3 rf (Int.toNat (pivots1.length:Int)) (g11<|Int.toNat (pivots1.length:Int)) 0 ((at' a3 (pivots1.length:Int)).length)) O O O (Rz Cg O) bY (dN<|qZ<|Vc.famSw (K:=900000) (a:=(pivots1.length:Int)) (b:=row) hrf (bn hi3 lzZ) (bn hi4 lzZ) O (λgs=>?_))))))
    refine wk 4 λh hi5 h=>?_
    refine wZ rg<|cy (aZ 900000 O) dh jR O (bn hi5 lzZ) ?_
    refine wk 2 λh hi6 h=>?_
    refine am<|gT (cW hrf) bf dZ dT O (bn hi6 lzZ) O (v:=af (at' (at' (swp a3 (pivots1.length:Int) row) (pivots1.length:Int)) k1)) O ?_
    refine wk 9 λg12 h hi7 h=>?_
    refine wZ rg<|cy (aZ 900000 O) dh jR O (bn hi7 lzZ) ?_
    refine wk 4 λh=>?_
    refine lgZ h gs (λy=>aw [(0,.sl 1 rg 900000 g10 0 y.1.2.length),(4,.sl 1 rg 137 g9 0 pivots1.length),(5,iZ k1),(6,iZ (pivots1.length:Int)),(8,.ptr rg 8 g12 0 0),(75,iZ ((at' (swp a3 (pivots1.length:Int) row) (pivots1.length:Int)).length:Int)),(76,iZ y.1.1)]) (λy=>stL (bR S rf 3 af y.2 y.1.2) rg [(8,.arr 3 [af (at' (at' (swp a3 (pivots1.length:Int) row) (pivots1.length:Int)) k1)],g12),(137,.arr 1 (List.map iZ pivots1),g9),(900000,.arr 1 (bH rf 3 y.2 y.1.2),g10)]) (canon (fc (VW.slen lzZ)<|gb<|fZ<|fZ<|fn)<|sc O<|sc O<|sc O<|sn) (λy _ h=>?_)
    obtain⟨⟨x,a4⟩,g13⟩:=y
    refine wk 5 λh=>?_
    refine cZ h O (λhb3 h=>?_) (λhb3 h=>?_)
    ·refine wk 8 λh=>?_
     refine tkZ h (λhi8 h=>tkZ h (λhi9 h=>tkZ h (λhi10 h=>?_)))
     obtain⟨r,r1,hc,h⟩:=h
     refine tkZ h (λhi11 h=>Vc.drawn' mixed rg (gd [(13,pc (.tuple [af r,cw 39 r1]))]) krZ ?_)
     refine wk 2 λh=>?_
     refine dP O O<|aS iR dh dZ O O hi8<|dL (E:=([(rg,900000)],[])) O O zSm eCf (cy (aZ 900000 O) dh jR O (bn hi8 lzZ) ?_)
     refine wk 3 λh=>?_
     refine dP O O<|aS iR dh dZ O O hi9<|dL (E:=([(rg,900000)],[])) O O zSm (cfa zAp eCf) (cy (aZ 900000 O) dh jR O (bn hi9 lzZ) ?_)
     refine wk 1 λh=>?_
     refine dP O O<|aS df bf dZ O O hi10<|dL (E:=([(rf,Int.toNat (pivots1.length:Int))],[])) O O zSm (cfo krZ<|cfa zAp eCf) (gT (cW hrf) bf dZ dT O (bn hi10 lzZ) O (v:=af (at' (at' a4 (pivots1.length:Int)) x)) O ?_)
     refine wk 1 λh=>?_
     refine dC (vs:=[af (at' (at' a4 (pivots1.length:Int)) x),af (at' (at' (swp a3 (pivots1.length:Int) row) (pivots1.length:Int)) k1)]) O (vZ<|vZ<|vn) (λ_=>mO hc (λ_ _ hr=>⟨by rw[hr.1,hr.2],rfl⟩)) O ?_
     refine wk 3 λh=>?_
     refine dP O O<|aS df bf dZ O O hi11<|dL (E:=([],[(rf,Int.toNat (pivots1.length:Int))])) O O zSm eCf (dH (cW hrf) bf dZ (x':=r) (λ_=>O) O O (bn hi11 lzZ) O O (jk hrf<|bn hi8 lzZ)<|dN<|oV (EWk.famKeep (K:=900000) O (m:=(pivots1.length:Int)) (l:=(aN (at' a4 (pivots1.length:Int)) x r)) lzZ) ?_)
     exact wk 9999 trivial
    refine wk 9 λh=>?_
    refine lgZ h (g9,g10,g13) (λy=>aw [(0,.sl 1 rg 900000 y.2.2.1 0 y.1.2.length),(4,.sl 1 rg 137 y.2.1 0 pivots1.length),(5,iZ k1),(6,iZ (pivots1.length:Int)),(99,iZ (a4.length:Int)),(100,iZ y.1.1)]) (λy=>stL (bR S rf 3 af y.2.2.2 y.1.2) rg [(137,.arr 1 (List.map iZ pivots1),y.2.1),(900000,.arr 1 (bH rf 3 y.2.2.2 y.1.2),y.2.2.1)]) eCa (λy _ h=>?_)
    obtain⟨⟨x1,a5⟩,⟨g14,g15,g16⟩⟩:=y
    refine wk 5 λh=>?_
    refine cZ h O (λhb4 h=>?_) (λhb4 h=>?_)
    ·refine wk 8 λh=>?_
     refine jgZ (γ:=Nat×Nat×(Nat->Nat)) h (λy=>aw [(0,.sl 1 rg 900000 y.2.2.1 0 y.1.2.length),(4,.sl 1 rg 137 y.2.1 0 pivots1.length),(5,iZ k1),(6,iZ (pivots1.length:Int)),(10,iZ x1),(99,iZ (a4.length:Int)),(100,iZ x1),(116,.bool y.1.1)]) (λy=>stL (bR S rf 3 af y.2.2.2 y.1.2) rg [(137,.arr 1 (List.map iZ pivots1),y.2.1),(900000,.arr 1 (bH rf 3 y.2.2.2 y.1.2),y.2.2.1)]) (λy h=>?_) (λ_ h=>?_)
     ·obtain⟨⟨x2,a6⟩,⟨g17,g18,g19⟩⟩:=y
      refine cZ h O (λhb5 h=>?_) (λhb5 h=>?_)
      ·refine tkZ h (λhi12 h=>tkZ h (λhi13 h=>tkZ h (λhi14 h=>tkZ h (λhi15 h=>tkZ h (λhg2 h=>?_)))))
       obtain⟨r2,hc1,hl,h⟩:=h
       refine Vc.drawn' mixed rg (gd [(15,wc (λ_=>.tuple []) [(rf,Int.toNat (pivots1.length:Int))] [(rf,Int.toNat x1)] (λ_=>[(rf,Int.toNat x1,.arr 3 (List.map af r2),(g19<|Int.toNat x1))]))]) krZ ?_
       refine wk 2 λh=>?_
       refine dP O O<|aS iR dh dZ O O hi12<|dL (E:=([(rg,900000)],[])) O O zSm eCf (cy (aZ 900000 O) dh jR O (bn hi12 lzZ) ?_)
       refine wk 2 λh=>?_
       refine dP O O<|aS iR dh dZ O O hi13<|dL (E:=([(rg,900000)],[])) O O zSm (cfa zAp eCf) (cy (aZ 900000 O) dh jR O (bn hi13 lzZ) ?_)
       refine wk 2 λh=>?_
       refine dP O O<|aS iR dh dZ O O hi14<|dL (E:=([(rg,900000)],[])) O O zSm (cfa zAp<|cfa zAp eCf) (cy (aZ 900000 O) dh jR O (bn hi14 lzZ) ?_)
       refine wk 1 λh=>?_
       refine dP O O<|aS df bf dZ O O hi15<|dL (E:=([(rf,Int.toNat x1)],[])) O O zSm (cfo krZ<|cfa zAp<|cfa zAp eCf) (gT (cW hrf) bf dZ dT O (bn hi15 lzZ) O (v:=af (at' (at' a6 x1) k1)) O ?_)
       refine dCE (vs:=[.sl 3 rf (Int.toNat x1) (g19<|Int.toNat x1) 0 ((at' a6 x1).length),.sl 3 rf (Int.toNat (pivots1.length:Int)) (g19<|Int.toNat (pivots1.length:Int)) 0 ((at' a6 (pivots1.length:Int)).length),af (at' (at' a6 x1) k1)]) (V:=λ_=>.tuple []) (rd:=[(rf,Int.toNat (pivots1.length:Int))]) (wk:=[(rf,Int.toNat x1)]) (wr:=λ_=>[(rf,Int.toNat x1,.arr 3 (List.map af r2),(g19<|Int.toNat x1))]) rfl (vZ<|vZ<|vZ<|vn) rfl eCf zSm (λ_=>rfl) (λS' hA hB=>fj (ah (ag hB 0 rfl<|cW hrf)<|ah (ag hA 0 rfl<|cW hrf)<|bI)<|qj (qt (bg (λhh=>hg2 hh.2.symm) qi) eDk) hc1 (λ_ he=>by obtain rfl:=he;exact⟨λi=>([]:List Nat).getD i 0,rfl,uk (ah (ag hA 0 rfl<|cW hrf)<|bI)⟩)) (λ_=>nc (ur (AB)<|jk hrf<|bn hi12 lzZ)<|dN<|oV (EWk.famKeep (K:=900000) O (m:=x1) (l:=r2)<|hl) ?_)
       exact wk 9999 trivial
      exact wk 9999 trivial
     refine wk 5 λh=>?_
     refine gtZ h O O (λhb6 h=>?_) (λhb6 h=>?_)
     ·refine wk 6 λh hi16 h=>?_
      refine wZ rg<|cy (aZ 900000 O) dh jR O (bn hi16 lzZ) ?_
      refine wk 5 λh hi17 h=>?_
      refine am<|gT (cW hrf) bf dZ dT O (bn hi17 lzZ) O (v:=af (at' (at' a5 x1) k1)) O (gTZ O O hb6<|am<|clZ O<|bw h λr3 h=>?_)
      exact wk 9999 trivial
     exact wk 9999 trivial
    refine wk 4 λh=>?_
    refine wZ rg<|aV ge ok3 gC (es:=[iZ k1]) O (kk:=1) O O O O O O (λg20=>tkZ h (λhg5 h=>wZ rg<|cu ge oS ok3 gC (es:=pivots1) (xs:=[k1]) (enc:=iZ) (aZ 137 O) lzZ (bi (aZ 136 O) lzZ) (kk:=1) O O (λ_=>O) (λ_=>O) hg5 O (λ_=>bY) (λg21=>?_)))
    exact wk 9999 trivial
   refine bZ<|lpZ h (λy=>aw [(0,.sl 1 rg 900000 g7 0 a2.length),(4,.sl 1 rg 137 g6 0 pivots1.length),(5,iZ k1),(6,iZ (pivots1.length:Int)),(7,iZ y)]) (λy=>stL (bR S rf 3 af g8 a2) rg [(137,.arr 1 (List.map iZ pivots1),g6),(900000,.arr 1 (bH rf 3 g8 a2),g7)]) eCa (λrow1 _ h=>?_)
   refine wk 8 λh=>?_
   refine gtZ h O O (λhb7 h=>?_) (λhb7 h=>?_)
   ·refine wk 6 λh hi18 h=>?_
    refine wZ rg<|cy (aZ 900000 O) dh jR O (bn hi18 lzZ) ?_
    refine wk 5 λh hi19 h=>?_
    refine am<|gT (cW hrf) bf dZ dT O (bn hi19 lzZ) O (v:=af (at' (at' a2 row1) k1)) O (gTZ O O hb7<|am<|clZ O<|bw h λr4 h=>?_)
    refine wk 4 λh=>?_
    refine cZ h O (λhb8 h=>?_) (λhb8 h=>?_)
    ·exact wk 9999 trivial
    exact wk 9999 trivial
   refine wk 10 λh=>?_
   refine cFZ O O ?_
   exact wk 9999 trivial
  exact wk 9999 trivial
 refine wk 6 λh=>?_
 refine cFZ O O ?_
 exact wk 9999 trivial
theorem mU {a:List (List GRat)} {b:List GRat} {Q:List GRat->Option Int->Prop} (h:gr a b Q) (hQ:∀r1 r2,Q r1 r2->R (.tuple [eL af r1,cw 39 r2]) S) :
  Ctr prog 42 [eL (eL af) a,eL af b] S R:=by
 refine au func42 rfl ntmps42 results42 krZ (λrg hrg=>?_)
 refine wk 9 λh=>?_
 refine am<|clZ O<|r_ h λe h=>?_
 refine wk 7 λh=>?_
 refine cZ h O (λhb h=>?_) (λhb h=>?_)
 ·refine wk 6 λh=>?_
  exact uZ<|aj (v:=.nil) O<|aj (v:=cw 39 e) O<|aq<|ar hrg (VW.tupL<|vl' (VW.nilL)<|vZ<|vn)<|hQ _ _ h
 refine wk 10 λh=>?_
 refine cZ h O (λhb1 h=>?_) (λhb1 h=>?_)
 ·refine wk 6 λh=>?_
  exact uZ<|aj (v:=.nil) O<|aj (v:=.iface 39 (iZ 11)) O<|aq<|ar hrg (VW.tupL<|vl' (VW.nilL)<|vZ<|vn)<|hQ _ _ h
 refine wk 4 λh=>?_
 refine am<|clZ O<|oL rg 600027 h λall rf gs g1 hrf nrf h=>?_
 replace nrf:=λk=>(kU hrf).symm.trans (nrf k)
 refine bL (Dh hrf) ?_
 refine wk 10 λh=>?_
 refine lgZ h gs (λy=>aw [(0,eL (eL af) a),(7,.sl 1 rg 600027 g1 0 y.1.2.length),(28,eL af b),(29,iZ (b.length:Int)),(30,iZ y.1.1)]) (λy=>stL (bR S rf 3 af y.2 y.1.2) rg [(600027,.arr 1 (bH rf 3 y.2 y.1.2),g1)]) eCa (λy _ h=>?_)
 obtain⟨⟨x,all1⟩,g2⟩:=y
 refine wk 5 λh=>?_
 refine cZ h O (λhb2 h=>?_) (λhb2 h=>?_)
 ·refine wk 12 λg3 h hg h=>?_
  refine tkZ h (λhi h=>?_)
  obtain⟨r,hc,h⟩:=h
  refine tkZ h (λhg1 h=>tkZ h (λhi1 h=>Vc.drawn' mixed rg (gd [(8,pc (af r))]) krZ ?_))
  refine wk 4 λh=>?_
  refine dP O O<|aS iR dh dZ O O hi<|dL (E:=([(rg,600027)],[])) O O zSm eCf (cy (aZ 600027 O) dh jR O (bn hi lzZ) ?_)
  refine wk 1 λh=>?_
  refine dP O O<|bx mg cx kw kp bf (ps:=[]) O O (v:=.agg [.bool false,.nil,.nil]) O<|dC (vs:=[af (at' b x),af (⟨false,[],[]⟩:GRat)]) O (vZ<|vl' (VW.aggL<|vZ<|vl' (VW.nilL)<|vl' (VW.nilL)<|vn)<|vn) (λ_=>bE hc (λ_ hr=>⟨by rw[hr],rfl⟩)) O<|dL (E:=([],[(rg,44)])) O O zSm (cfo krZ<|cfa zAp eCf) (aV df iT cx (es:=[af r]) O (kk:=3) O O O O O O (λg4=>dL (E:=([(rg,44)],[(rf,Int.toNat x)])) O O zSm eCf (AO hrf df iM iT cx (bn hi lzZ) O lzZ (xs:=[r]) (enc:=af) (bi (aZ 44 O) lzZ) (kk:=3) O O (λ_=>O) (λ_=>O) hg1 O (λg5=>dP O O<|aS iR dh dZ O O hi1<|dL (E:=([],[(rg,600027)])) O O zSm eCf (oD (aZ 600027 O) dh O O (bn hi1 lzZ) (l:=(at' all1 x++[r])) O bY ?_)))))
  exact wk 9999 trivial
 refine wk 12 λh hg3 h=>?_
 refine am<|clZ O<|Ctr.over (K:=600027) hrf O<|oK hrf (λi=>by simp only[kU hrf];exact nrf i) (by rw[eR,yc];simp) h λr1 r2 h=>dr (canon (es:=[(10,iZ ((at' a 0).length:Int)),(54,.tuple [eL (eL af) r1,cp r2])]) (m:=[]) (fZ<|fZ<|fn) (sn)) ?_
 refine wk 7 λh=>?_
 refine jnZ h (λy=>aw [(10,iZ ((at' a 0).length:Int)),(11,eL (eL af) r1),(12,cp r2),(69,.bool y)]) (λy=>stL S rg []) (λx1 h=>?_) (λ_ h=>?_)
 ·refine cZ h O (λhb3 h=>?_) (λhb3 h=>?_)
  ·refine wk 6 λh=>?_
   exact uZ<|aj (v:=.nil) O<|aj (v:=.iface 39 (iZ 17)) O<|aq<|ar hrg (VW.tupL<|vl' (VW.nilL)<|vZ<|vn)<|hQ _ _ h
  refine wk 9 λh=>?_
  refine cZ h O (λhb4 h=>?_) (λhb4 h=>?_)
  ·refine wk 6 λh=>?_
   exact uZ<|aj (v:=.nil) O<|aj (v:=.iface 39 (iZ 16)) O<|aq<|ar hrg (VW.tupL<|vl' (VW.nilL)<|vZ<|vn)<|hQ _ _ h
  refine wk 4 λh=>?_
  refine tkZ h (λhg4 h=>wZ rg<|fW df iM iT cx (kk:=3) O O O hg4 (λg6=>dr (EWk.ow (k:=77) (o':=.arr 3 (List.map af<|aQ ((at' a 0).length:Int) (⟨false,[],[]⟩:GRat))) O (OW.rep<|VWL.vwc<|vZ<|vl' (VW.nilL)<|vl' (VW.nilL)<|vn)) ?_))
  refine wk 10 λh=>?_
  refine lpZ h (λy=>aw [(10,iZ ((at' a 0).length:Int)),(11,eL (eL af) r1),(13,.sl 3 rg 77 g6 0 y.2.length),(79,iZ ((Int.toNat ((at' a 0).length:Int)):Int)),(80,iZ y.1)]) (λy=>stL S rg [(77,.arr 3 (List.map af y.2),g6)]) (canon (fZ<|fZ<|fc (VW.slen lzZ)<|fZ<|fZ<|fn)<|sc O<|sn) (λy _ h=>?_)
  obtain⟨x2,x3⟩:=y
  refine wk 5 λh=>?_
  refine cZ h O (λhb5 h=>?_) (λhb5 h=>?_)
  ·refine wk 19 λh hg5 h hg6 h hi2 h=>?_
   refine am<|dH (aZ 77 O) bf dZ (x':=(at' (at' r1 x2) ((at' a 0).length:Int))) (λ_=>O) O O (bn hi2 lzZ) O O bY ?_
   exact wk 9999 trivial
  refine wk 7 λh=>?_
  exact uZ<|aj (v:=.sl 3 rg 77 g6 0 x3.length) O<|aj (v:=.niface) O<|aq<|aP (k:=77) (xs:=List.map af x3) O (v':=.tuple [eL af x3,.niface]) (VW.tupL<|vl' (aL O)<|vZ<|vn)<|ar hrg eVw<|hQ _ _ h
 exact wk 9999 trivial
end Go.Proofs.YtcmagbhiioheeaaGreatDoor
namespace Go.Proofs.YtcmagbhiioheeaaGreatDoor
open Go.Gg Tryz
set_option maxRecDepth 100000
set_option maxHeartbeats 2000000
variable {S:St} {R:AV->St->Prop}
theorem jH {s:List Bool} (q k:Nat) {Q:List Bool->Prop} {S:St} {R:AV->St->Prop} (h:ep s Q) (hQ:∀r1 g,Q r1->R (.sl 1 q k g 0 r1.length) (S.set q k (.arr 1 (List.map AV.bool r1)) g)) :
  Ctr prog 125 [eL AV.bool s] S R:=by
 unfold ep at h
 refine au func125 rfl ntmps125 results125 krZ (λrg hrg=>?_)
 refine wk 8 λh=>?_
 refine Wl.isnil mf O O (λisnil hn=>?_)
 replace h:=h isnil hn
 refine nZ<|cZ h O (λhb h=>?_) (λhb h=>?_)
 ·exact dA<|asZ .nil O<|fI<|aj (v:=.nil) O<|aq<|A0 q k dZ hrg (λg'=>hQ [] g' h)
 refine kZ<|dA<|wZ rg<|aV mf ok4 pt (es:=[]) O (kk:=1) O O O O O O (λg1=>mvZ (eL AV.bool s) O<|tkZ h (λhg h=>wZ rg<|cu mf wC ok4 pt (es:=([]:List Bool)) (xs:=s) (enc:=AV.bool) (aZ 5 O) lzZ (O) (kk:=1) O O (λ_=>O) (λ_=>O) hg O (λ_=>bY) (λg2=>?_)))
 refine wk 2 λh=>?_
 refine uZ<|aj (v:=.sl 1 rg 5 g2 0 ((([]:List Bool)++s).length)) O (aq ?_)
 show cN _ (.sl 1 rg 5 g2 0 ((([]:List Bool)++s).length)) _
 exact xf q k hrg O (λg'=>hQ _ g' h)
end Go.Proofs.YtcmagbhiioheeaaGreatDoor
namespace Go.Proofs.YtcmagbhiioheeaaGreatDoor
open Go.Gg Tryz
set_option maxRecDepth 100000
set_option maxHeartbeats 2000000
variable {S:St} {R:AV->St->Prop}
theorem tM {c:GChain} {Q:List Bool->Option Int->Prop} (h:jB c Q) (hQ:∀r1 r2,Q r1 r2->R (.tuple [eL AV.bool r1,cw 39 r2]) S) :
  Ctr prog 89 [bq c] S R:=by
 refine au func89 rfl ntmps89 results89 krZ (λrg hrg=>?_)
 refine wk 10 λg1 h=>?_
 refine am<|clZ O<|ko h λe h=>?_
 refine wk 7 λh=>?_
 refine cZ h O (λhb h=>?_) (λhb h=>?_)
 ·refine wk 6 λh=>?_
  exact uZ<|aj (v:=.nil) O<|aj (v:=cw 39 e) O<|aq<|ar hrg (VW.tupL<|vl' (VW.nilL)<|vZ<|vn)<|hQ _ _ h
 refine wk 5 λh=>?_
 refine tkZ h (λhg h=>wZ rg<|fg mf wC ok4 (enc:=AV.bool) (z':=false) pt (kk:=1) O O O hg (λg2=>?_))
 refine wk 3 λh=>?_
 refine tkZ h (λhg1 h=>tkZ h (λhi h=>Vc.drawn' mixed rg (λ_=>iV) krZ ?_))
 refine wk 7 λh=>?_
 refine dP O O<|fv mf sz4 dZ (λ_=>O) O O hg1 ?_
 refine wk 2 λh=>?_
 refine dP O O<|aS mf sz4 dZ O O hi ?_
 refine wk 8 λh=>?_
 refine lgZ h (g1,g2) (λy=>aw [(1,.ptr rg 1 y.2.1 0 0),(5,.sl 1 rg 22 y.2.2 0 y.1.2.length),(6,.bool y.1.1)]) (λy=>stL S rg [(1,.arr 4 [bq c],y.2.1),(22,.arr 1 (List.map AV.bool y.1.2),y.2.2)]) (canon (fZ<|fc (VW.slen lzZ)<|fZ<|fn)<|sc O<|sc O<|sn) (λy _ h=>?_)
 obtain⟨⟨changed,out⟩,⟨g3,g4⟩⟩:=y
 refine wk 5 λh=>?_
 refine cZ h O (λhb1 h=>?_) (λhb1 h=>?_)
 ·refine wk 14 λh=>?_
  refine lgZ h (g3,g4) (λy=>aw [(1,.ptr rg 1 y.2.1 0 0),(5,.sl 1 rg 22 y.2.2 0 y.1.2.2.length),(6,.bool y.1.1),(36,eL cX c.V),(37,iZ (c.V.length:Int)),(38,iZ y.1.2.1)]) (λy=>stL S rg [(1,.arr 4 [bq c],y.2.1),(22,.arr 1 (List.map AV.bool y.1.2.2),y.2.2)]) eCa (λy _ h=>?_)
  obtain⟨⟨changed1,x,out1⟩,⟨g5,g6⟩⟩:=y
  refine wk 5 λh=>?_
  refine cZ h O (λhb2 h=>?_) (λhb2 h=>?_)
  ·refine wk 10 λg7 h hg2 h=>?_
   refine jgZ (γ:=Nat×Nat×Nat) h (λy=>aw [(1,.ptr rg 1 y.2.1 0 0),(5,.sl 1 rg 22 y.2.2.2 0 out1.length),(6,.bool changed1),(8,.ptr rg 8 y.2.2.1 0 0),(36,eL cX c.V),(37,iZ (c.V.length:Int)),(38,iZ x),(63,.bool y.1)]) (λy=>stL S rg [(1,.arr 4 [bq c],y.2.1),(8,.arr 5 [cX (at' c.V x)],y.2.2.1),(22,.arr 1 (List.map AV.bool out1),y.2.2.2)]) (λy h=>?_) (λ_ h=>?_)
   ·obtain⟨x1,⟨g8,g9,g10⟩⟩:=y
    refine cZ h O (λhb3 h=>?_) (λhb3 h=>?_)
    ·exact wk 9999 trivial
    exact wk 9999 trivial
   exact wk 9999 trivial
  exact wk 9999 trivial
 refine wk 5 λh=>?_
 refine am<|clZ O<|jH rg 71 h λends g11 h=>bL bY ?_
 refine wk 8 λh=>?_
 refine lgZ h (g3,g4,g11) (λy=>aw [(1,.ptr rg 1 y.2.1 0 0),(5,.sl 1 rg 22 y.2.2.1 0 out.length),(9,.sl 1 rg 71 y.2.2.2 0 y.1.2.length),(10,.bool y.1.1)]) (λy=>stL S rg [(1,.arr 4 [bq c],y.2.1),(22,.arr 1 (List.map AV.bool out),y.2.2.1),(71,.arr 1 (List.map AV.bool y.1.2),y.2.2.2)]) eCa (λy _ h=>?_)
 obtain⟨⟨changed2,ends1⟩,⟨g12,g13,g14⟩⟩:=y
 refine wk 5 λh=>?_
 refine cZ h O (λhb6 h=>?_) (λhb6 h=>?_)
 ·refine wk 14 λh=>?_
  refine lgZ h (g12,g13,g14) (λy=>aw [(1,.ptr rg 1 y.2.1 0 0),(5,.sl 1 rg 22 y.2.2.1 0 out.length),(9,.sl 1 rg 71 y.2.2.2 0 y.1.2.2.length),(10,.bool y.1.1),(74,eL cX c.V),(75,iZ (c.V.length:Int)),(76,iZ y.1.2.1)]) (λy=>stL S rg [(1,.arr 4 [bq c],y.2.1),(22,.arr 1 (List.map AV.bool out),y.2.2.1),(71,.arr 1 (List.map AV.bool y.1.2.2),y.2.2.2)]) eCa (λy _ h=>?_)
  obtain⟨⟨changed3,x2,ends2⟩,⟨g15,g16,g17⟩⟩:=y
  refine wk 5 λh=>?_
  refine cZ h O (λhb7 h=>?_) (λhb7 h=>?_)
  ·refine wk 10 λg18 h hg6 h=>?_
   refine jgZ (γ:=Nat×Nat×Nat×Nat) h (λy=>aw [(1,.ptr rg 1 y.2.1 0 0),(5,.sl 1 rg 22 y.2.2.2.1 0 out.length),(9,.sl 1 rg 71 y.2.2.2.2 0 ends2.length),(10,.bool changed3),(12,.ptr rg 12 y.2.2.1 0 0),(74,eL cX c.V),(75,iZ (c.V.length:Int)),(76,iZ x2),(92,.bool y.1)]) (λy=>stL S rg [(1,.arr 4 [bq c],y.2.1),(12,.arr 5 [cX (at' c.V x2)],y.2.2.1),(22,.arr 1 (List.map AV.bool out),y.2.2.2.1),(71,.arr 1 (List.map AV.bool ends2),y.2.2.2.2)]) (λy h=>?_) (λ_ h=>?_)
   ·obtain⟨x3,⟨g19,g20,g21,g22⟩⟩:=y
    refine cZ h O (λhb8 h=>?_) (λhb8 h=>?_)
    ·exact wk 9999 trivial
    exact wk 9999 trivial
   exact wk 9999 trivial
  exact wk 9999 trivial
 refine wk 9 λh=>?_
 refine lgZ h (g13,g14) (λy=>aw [(5,.sl 1 rg 22 y.2.1 0 out.length),(9,.sl 1 rg 71 y.2.2 0 ends1.length),(98,.sl 1 rg 22 y.2.1 0 out.length),(99,iZ (out.length:Int)),(100,iZ y.1)]) (λy=>stL S rg [(22,.arr 1 (List.map AV.bool out),y.2.1),(71,.arr 1 (List.map AV.bool ends1),y.2.2)]) eCa (λy _ h=>?_)
 obtain⟨x4,⟨g23,g24⟩⟩:=y
 refine wk 5 λh=>?_
 refine cZ h O (λhb10 h=>?_) (λhb10 h=>?_)
 ·refine wk 11 λh hi7 h=>?_
  refine jgZ (γ:=Nat×Nat) h (λy=>aw [(5,.sl 1 rg 22 y.2.1 0 out.length),(9,.sl 1 rg 71 y.2.2 0 ends1.length),(98,.sl 1 rg 22 y.2.1 0 out.length),(99,iZ (out.length:Int)),(100,iZ x4),(112,.bool y.1)]) (λy=>stL S rg [(22,.arr 1 (List.map AV.bool out),y.2.1),(71,.arr 1 (List.map AV.bool ends1),y.2.2)]) (λy h=>?_) (λ_ h=>?_)
  ·obtain⟨x5,⟨g25,g26⟩⟩:=y
   refine cZ h O (λhb11 h=>?_) (λhb11 h=>?_)
   ·refine wk 6 λh=>?_
    exact uZ<|aj (v:=.nil) O<|aj (v:=.iface 39 (iZ 17)) O<|aq<|ar hrg (VW.tupL<|vl' (VW.nilL)<|vZ<|vn)<|hQ _ _ h
   exact wk 9999 trivial
  exact wk 9999 trivial
 refine wk 7 λh=>?_
 exact uZ<|aj (v:=.sl 1 rg 22 g23 0 out.length) O<|aj (v:=.niface) O<|aq<|aP (k:=22) (xs:=List.map AV.bool out) O (v':=.tuple [eL AV.bool out,.niface]) (VW.tupL<|vl' (aL O)<|vZ<|vn)<|ar hrg eVw<|hQ _ _ h
theorem rE {c:GChain} {l:List Bool} {back:Bool} {Q:List Int->List (List GRat)->Prop} (h:hZ c l back Q) (hQ:∀r1 r2,Q r1 r2->R (.tuple [cp r1,eL (eL af) r2]) S) :
  Ctr prog 90 [bq c,eL AV.bool l,AV.bool back] S R:=by
 refine au func90 rfl ntmps90 results90 krZ (λrg hrg=>?_)
 refine wk 14 λg1 h=>?_
 refine tkZ h (λhg h=>wZ rg<|fg ge oS ok3 (enc:=iZ) (z':=0) gC (kk:=1) O O O hg (λg2=>?_))
 refine wk 10 λh=>?_
 refine Vc.mat 8 37 1 O dZ (λg3=>lgZ h g3 (λy=>aw [(1,eL AV.bool l),(2,.bool back),(3,.ptr rg 3 g1 0 0),(8,.sl 1 rg 37 y.2 0 y.1.2.2.length),(9,.sl 1 rg 20 g2 0 y.1.2.1.length),(21,eL AV.bool l),(22,iZ (l.length:Int)),(23,iZ y.1.1)]) (λy=>stL S rg [(3,.arr 4 [bq c],g1),(20,.arr 1 (List.map iZ y.1.2.1),g2),(37,.arr 1 (List.map iZ y.1.2.2),y.2)]) (canon (fZ<|fZ<|fZ<|fc (VW.slen lzZ)<|fc (VW.slen lzZ)<|fZ<|fZ<|fZ<|fn)<|sc O<|sc O<|sc O<|sn) (λy _ h=>?_))
 obtain⟨⟨x,place,states⟩,g4⟩:=y
 refine wk 5 λh=>?_
 refine cZ h O (λhb h=>?_) (λhb h=>?_)
 ·refine wk 15 λh hg1 h=>?_
  refine cZ h O (λhb1 h=>?_) (λhb1 h=>?_)
  ·refine wk 12 λh hi h=>?_
   refine wZ rg<|aV ge ok3 gC (es:=[iZ x]) O (kk:=1) O O O O O O (λg5=>tkZ h (λhg2 h=>wZ rg<|cu ge oS ok3 gC (es:=states) (xs:=[x]) (enc:=iZ) (aZ 37 O) lzZ (bi (aZ 36 O) lzZ) (kk:=1) O O (λ_=>O) (λ_=>O) hg2 O (λ_=>bY) (λg6=>?_)))
   exact wk 9999 trivial
  exact wk 9999 trivial
 refine wk 5 λh=>?_
 refine tkZ h (λhg5 h=>wZ rg<|fW iR Co F5 yD (kk:=1) O O O hg5 (λg7=>Wl.fam 3 af (K:=41) O dZ (λrf gs hrf nrf=>?_)))
 refine wk 10 λh=>?_
 refine lgZ h gs (λy=>aw [(1,eL AV.bool l),(2,.bool back),(3,.ptr rg 3 g1 0 0),(8,.sl 1 rg 37 g4 0 states.length),(9,.sl 1 rg 20 g2 0 place.length),(12,.sl 1 rg 41 g7 0 y.1.2.length),(43,iZ ((Int.toNat (states.length:Int)):Int)),(44,iZ y.1.1)]) (λy=>stL (bR S rf 3 af y.2 y.1.2) rg [(3,.arr 4 [bq c],g1),(20,.arr 1 (List.map iZ place),g2),(37,.arr 1 (List.map iZ states),g4),(41,.arr 1 (bH rf 3 y.2 y.1.2),g7)]) (canon (gb<|fZ<|fc (VW.slen lzZ)<|fZ<|fZ<|fn)<|od O O O O<|sn) (λy _ h=>?_)
 obtain⟨⟨x1,a⟩,g8⟩:=y
 refine wk 5 λh=>?_
 refine cZ h O (λhb2 h=>?_) (λhb2 h=>?_)
 ·refine wk 13 λh=>?_
  refine tkZ h (λhg6 h=>wZ rg<|fW df iM iT cx (kk:=3) O O O hg6 (λg9=>dr (EWk.ow (k:=51) (o':=.arr 3 (List.map af<|aQ (states.length:Int) (⟨false,[],[]⟩:GRat))) O (OW.rep<|VWL.vwc<|vZ<|vl' (VW.nilL)<|vl' (VW.nilL)<|vn)) ?_))
  refine wk 1 λh hi1 h=>?_
  refine dr (canon (es:=[(1,eL AV.bool l),(2,.bool back),(3,.ptr rg 3 g1 0 0),(8,.sl 1 rg 37 g4 0 states.length),(9,.sl 1 rg 20 g2 0 place.length),(12,.sl 1 rg 41 g7 0 a.length),(43,iZ ((Int.toNat (states.length:Int)):Int)),(44,iZ x1),(51,.sl 3 rg 51 g9 0 (Int.toNat (states.length:Int))),(52,.ptr rg 41 g7 (Int.toNat x1) 0)]) (m:=[(51,.arr 3 (List.map af<|aQ (states.length:Int) (⟨false,[],[]⟩:GRat)),g9),(3,.arr 4 [bq c],g1),(20,.arr 1 (List.map iZ place),g2),(37,.arr 1 (List.map iZ states),g4),(41,.arr 1 (bH rf 3 g8 a),g7)]) (gb<|gb<|fZ<|fZ<|fn) (od O O O O<|sc O<|sn)) (Wl.famPt 51 x1 hrf (bn hi1 lzZ) O (λg10=>[(1,eL AV.bool l),(2,.bool back),(3,.ptr rg 3 g1 0 0),(8,.sl 1 rg 37 g4 0 states.length),(9,.sl 1 rg 20 g2 0 place.length),(12,.sl 1 rg 41 g7 0 a.length),(43,iZ ((Int.toNat (states.length:Int)):Int)),(44,iZ x1),(51,.sl 3 rf (Int.toNat x1) g10 0 ((aQ (states.length:Int) (⟨false,[],[]⟩:GRat)).length)),(52,.ptr rg 41 g7 (Int.toNat x1) 0)]) [(3,.arr 4 [bq c],g1),(20,.arr 1 (List.map iZ place),g2),(37,.arr 1 (List.map iZ states),g4),(41,.arr 1 (bH rf 3 g8 a),g7)] O (λ_=>⟨nu,nu,nu,nu,nu,nu,nu,nu,Xl (Xk<|VW.slen lzZ) (CL 0 O),nu,trivial⟩) (λg10=>?_))
  refine wZ rg<|oD (aZ 41 O) dh O O (bn hi1 lzZ) (l:=(aQ (states.length:Int) (⟨false,[],[]⟩:GRat))) O bY ?_
  exact wk 9999 trivial
 refine wk 10 λh=>?_
 refine lgZ h (g2,g4,g7,g8) (λy=>aw [(1,eL AV.bool l),(2,.bool back),(8,.sl 1 rg 37 y.2.2.1 0 states.length),(9,.sl 1 rg 20 y.2.1 0 place.length),(12,.sl 1 rg 41 y.2.2.2.1 0 y.1.2.length),(55,eL cX c.V),(56,iZ (c.V.length:Int)),(57,iZ y.1.1)]) (λy=>stL (bR S rf 3 af y.2.2.2.2 y.1.2) rg [(20,.arr 1 (List.map iZ place),y.2.1),(37,.arr 1 (List.map iZ states),y.2.2.1),(41,.arr 1 (bH rf 3 y.2.2.2.2 y.1.2),y.2.2.2.1)]) eCa (λy _ h=>?_)
 obtain⟨⟨x2,a1⟩,⟨g11,g12,g13,g14⟩⟩:=y
 refine wk 5 λh=>?_
 refine cZ h O (λhb3 h=>?_) (λhb3 h=>?_)
 ·refine wk 20 λg15 h hg8 h hg9 h=>?_
  refine cZ h O (λhb4 h=>?_) (λhb4 h=>?_)
  ·exact wk 9999 trivial
  refine wk 11 λh hi2 h=>?_
  refine tkZ h (λhi3 h=>tkZ h (λhi4 h=>tkZ h (λhi5 h=>?_)))
  obtain⟨r,hc,h⟩:=h
  refine tkZ h (λhi6 h=>Vc.drawn' mixed rg (gd [(14,pc (af r))]) krZ ?_)
  refine wk 2 λh=>?_
  refine dP O O<|aS iR dh dZ O O hi3<|dL (E:=([(rg,41)],[])) O O zSm eCf (cy (aZ 41 O) dh jR O (bn hi3 lzZ) ?_)
  refine wk 3 λh=>?_
  refine dP O O<|aS iR dh dZ O O hi4<|dL (E:=([(rg,41)],[])) O O zSm (cfa zAp eCf) (cy (aZ 41 O) dh jR O (bn hi4 lzZ) ?_)
  refine wk 1 λh=>?_
  refine dP O O<|aS df bf dZ O O hi5<|dL (E:=([(rf,Int.toNat (at' place<|(at' c.V x2).D))],[])) O O zSm (cfo krZ<|cfa zAp eCf) (gT (cW hrf) bf dZ dT O (bn hi5 lzZ) O (v:=af (at' (at' a1<|at' place<|(at' c.V x2).D)<|at' place<|(at' c.V x2).D)) O (dP O O<|Dj so O<|dL (E:=([(rg,15)],[])) O O zSm (cfa zAp<|cfa zAp<|cfa zAp eCf) (cG (aZ 15 O) bf dZ dT O O (v:=af ((at' c.V x2).X)) O (dC (vs:=[af (at' (at' a1<|at' place<|(at' c.V x2).D)<|at' place<|(at' c.V x2).D),af ((at' c.V x2).X)]) O (vZ<|vZ<|vn) (λ_=>bE hc (λ_ hr=>⟨by rw[hr],rfl⟩)) O<|dP O O<|aS df bf dZ O O hi6<|dL (E:=([],[(rf,Int.toNat (at' place<|(at' c.V x2).D))])) O O zSm eCf (dH (cW hrf) bf dZ (x':=r) (λ_=>O) O O (bn hi6 lzZ) O O (jk hrf<|bn hi3 lzZ)<|dN<|qZ<|qZ<|oV (EWk.famKeep (K:=41) O (m:=(at' place<|(at' c.V x2).D)) (l:=(aN (at' a1<|at' place<|(at' c.V x2).D) (at' place<|(at' c.V x2).D) r)) lzZ) ?_)))))
  refine wk 8 λh hg11 h=>?_
  refine cZ h O (λhb5 h=>?_) (λhb5 h=>?_)
  ·exact wk 9999 trivial
  refine wk 10 λh hi7 h=>?_
  refine jgZ (γ:=Nat×Nat×Nat×Nat×(Nat->Nat)) h (λy=>aw [(1,eL AV.bool l),(2,.bool back),(8,.sl 1 rg 37 y.2.2.2.1 0 states.length),(9,.sl 1 rg 20 y.2.2.1 0 place.length),(12,.sl 1 rg 41 y.2.2.2.2.1 0 y.1.2.2.length),(15,.ptr rg 15 y.2.1 0 0),(16,iZ y.1.1),(17,iZ y.1.2.1),(55,eL cX c.V),(56,iZ (c.V.length:Int)),(57,iZ x2)]) (λy=>stL (bR S rf 3 af y.2.2.2.2.2 y.1.2.2) rg [(15,.arr 5 [cX (at' c.V x2)],y.2.1),(20,.arr 1 (List.map iZ place),y.2.2.1),(37,.arr 1 (List.map iZ states),y.2.2.2.1),(41,.arr 1 (bH rf 3 y.2.2.2.2.2 y.1.2.2),y.2.2.2.2.1)]) (λy h=>?_) (λ_ h=>?_)
  ·obtain⟨⟨i,k1,a2⟩,⟨g16,g17,g18,g19,g20⟩⟩:=y
   refine tkZ h (λhi8 h=>tkZ h (λhi9 h=>tkZ h (λhi10 h=>?_)))
   obtain⟨r1,hc1,h⟩:=h
   refine tkZ h (λhi11 h=>Vc.drawn' mixed rg (gd [(14,pc (af r1))]) krZ ?_)
   refine wk 2 λh=>?_
   refine dP O O<|aS iR dh dZ O O hi8<|dL (E:=([(rg,41)],[])) O O zSm eCf (cy (aZ 41 O) dh jR O (bn hi8 lzZ) ?_)
   refine wk 3 λh=>?_
   refine dP O O<|aS iR dh dZ O O hi9<|dL (E:=([(rg,41)],[])) O O zSm (cfa zAp eCf) (cy (aZ 41 O) dh jR O (bn hi9 lzZ) ?_)
   refine wk 1 λh=>?_
   refine dP O O<|aS df bf dZ O O hi10<|dL (E:=([(rf,Int.toNat i)],[])) O O zSm (cfo krZ<|cfa zAp eCf) (gT (cW hrf) bf dZ dT O (bn hi10 lzZ) O (v:=af (at' (at' a2 i) k1)) O (dP O O<|Dj so O<|dL (E:=([(rg,15)],[])) O O zSm (cfa zAp<|cfa zAp<|cfa zAp eCf) (cG (aZ 15 O) bf dZ dT O O (v:=af ((at' c.V x2).X)) O (dC (vs:=[af (at' (at' a2 i) k1),af ((at' c.V x2).X)]) O (vZ<|vZ<|vn) (λ_=>dm hc1 (λ_ hr=>⟨by rw[hr],rfl⟩)) O<|dP O O<|aS df bf dZ O O hi11<|dL (E:=([],[(rf,Int.toNat i)])) O O zSm eCf (dH (cW hrf) bf dZ (x':=r1) (λ_=>O) O O (bn hi11 lzZ) O O (jk hrf<|bn hi8 lzZ)<|dN<|oV (EWk.famKeep (K:=41) O (m:=i) (l:=(aN (at' a2 i) k1 r1)) lzZ) ?_)))))
   exact wk 9999 trivial
  exact wk 9999 trivial
 refine wk 8 λh=>?_
 exact uZ<|aj (v:=.sl 1 rg 37 g12 0 states.length) O<|aj (v:=.sl 1 rg 41 g13 0 a1.length) O<|aq<|rm hrf nrf (K:=41) O<|aP (k:=37) (xs:=List.map iZ states) O (v':=.tuple [cp states,.sl 1 rg 41 g13 0 a1.length]) (VW.tupL<|vl' (aL O)<|vl' (fT O)<|vn)<|aP (k:=41) (xs:=List.map (eL af) a1) O (v':=.tuple [cp states,eL (eL af) a1]) (VW.tupL<|vZ<|vl' (aL O)<|vn)<|ar hrg eVw<|hQ _ _ h
theorem sB {c:GChain} {back:Bool} {Q:List Bool->List GRat->Option Int->Prop} (h:lN c back Q) (hQ:∀r1 r2 r3,Q r1 r2 r3->R (.tuple [eL AV.bool r1,eL af r2,cw 39 r3]) S) :
  Ctr prog 47 [bq c,AV.bool back] S R:=by
 refine au func47 rfl ntmps47 results47 krZ (λrg hrg=>?_)
 refine wk 10 λg1 h=>?_
 refine am<|clZ O<|tM h λr r1 h=>?_
 refine wk 12 λh=>?_
 refine cZ h O (λhb h=>?_) (λhb h=>?_)
 ·refine wk 7 λh=>?_
  exact uZ<|aj (v:=.nil) O<|aj (v:=.nil) O<|aj (v:=cw 39 r1) O<|aq<|ar hrg (VW.tupL<|vl' (VW.nilL)<|vl' (VW.nilL)<|vZ<|vn)<|hQ _ _ _ h
 refine wk 5 λh=>?_
 refine tkZ h (λhg h=>wZ rg<|fW df iM iT cx (kk:=3) O O O hg (λg2=>dr (EWk.ow (k:=28) (o':=.arr 3 (List.map af<|aQ c.H (⟨false,[],[]⟩:GRat))) O (OW.rep<|VWL.vwc<|vZ<|vl' (VW.nilL)<|vl' (VW.nilL)<|vn)) ?_))
 refine wk 7 λh=>?_
 refine am<|clZ O<|rE h λr2 r3 h=>?_
 refine wk 13 λh=>?_
 refine cZ h O (λhb1 h=>?_) (λhb1 h=>?_)
 ·refine wk 8 λh=>?_
  exact uZ<|aj (v:=eL AV.bool r) O<|aj (v:=.sl 3 rg 28 g2 0 (Int.toNat c.H)) O<|aj (v:=.niface) O<|aq<|aP (k:=28) (xs:=List.map af (aQ c.H (⟨false,[],[]⟩:GRat))) O (v':=.tuple [eL AV.bool r,eL af (aQ c.H (⟨false,[],[]⟩:GRat)),.niface]) (VW.tupL<|vZ<|vl' (aL lzZ)<|vZ<|vn) (ar hrg eVw<|hQ _ _ _ h)
 refine wk 5 λh=>?_
 refine tkZ h (λhg1 h=>wZ rg<|fW df iM iT cx (kk:=3) O O O hg1 (λg3=>dr (EWk.ow (k:=43) (o':=.arr 3 (List.map af<|aQ (r2.length:Int) (⟨false,[],[]⟩:GRat))) O (OW.rep<|VWL.vwc<|vZ<|vl' (VW.nilL)<|vl' (VW.nilL)<|vn)) ?_))
 refine wk 10 λh=>?_
 refine lgZ h (g1,g2,g3) (λy=>aw [(1,.bool back),(2,.ptr rg 2 y.2.1 0 0),(7,eL AV.bool r),(9,.sl 3 rg 28 y.2.2.1 0 (Int.toNat c.H)),(10,cp r2),(11,eL (eL af) r3),(12,.sl 3 rg 43 y.2.2.2 0 y.1.2.length),(44,cp r2),(45,iZ (r2.length:Int)),(46,iZ y.1.1)]) (λy=>stL S rg [(2,.arr 4 [bq c],y.2.1),(28,.arr 3 (List.map af<|aQ c.H (⟨false,[],[]⟩:GRat)),y.2.2.1),(43,.arr 3 (List.map af y.1.2),y.2.2.2)]) (canon (gb<|fZ<|fZ<|fc (VW.slen lzZ)<|fZ<|fZ<|fZ<|fn)<|sc O<|sc O<|sc O<|sn) (λy _ h=>?_)
 obtain⟨⟨x,b⟩,⟨g4,g5,g6⟩⟩:=y
 refine wk 5 λh=>?_
 refine cZ h O (λhb2 h=>?_) (λhb2 h=>?_)
 ·refine wk 11 λh hg2 h=>?_
  refine jgZ (γ:=Nat×Nat×Nat) h (λy=>aw [(1,.bool back),(2,.ptr rg 2 y.2.1 0 0),(7,eL AV.bool r),(9,.sl 3 rg 28 y.2.2.1 0 (Int.toNat c.H)),(10,cp r2),(11,eL (eL af) r3),(12,.sl 3 rg 43 y.2.2.2 0 b.length),(13,iZ x),(44,cp r2),(45,iZ (r2.length:Int)),(46,iZ x),(58,.bool y.1)]) (λy=>stL S rg [(2,.arr 4 [bq c],y.2.1),(28,.arr 3 (List.map af<|aQ c.H (⟨false,[],[]⟩:GRat)),y.2.2.1),(43,.arr 3 (List.map af b),y.2.2.2)]) (λy h=>?_) (λ_ h=>?_)
  ·obtain⟨x1,⟨g7,g8,g9⟩⟩:=y
   refine cZ h O (λhb3 h=>?_) (λhb3 h=>?_)
   ·refine wk 3 λh=>?_
    refine am<|clZ O<|co h λr4 h=>?_
    refine wk 1 λh hi h=>?_
    refine am<|dH (aZ 43 O) bf dZ (x':=r4) (λ_=>O) O O (bn hi lzZ) O O bY ?_
    exact wk 9999 trivial
   exact wk 9999 trivial
  exact wk 9999 trivial
 refine wk 5 λh=>?_
 refine dr (aW (k:=43) (xs:=List.map af b) O (es:=[(7,eL AV.bool r),(9,.sl 3 rg 28 g5 0 (Int.toNat c.H)),(10,cp r2),(65,eL (eL af) r3),(66,eL af b)]) (fZ<|fc (fT O)<|fZ<|fZ<|fc (aL O)<|fn) (m:=[(28,.arr 3 (List.map af<|aQ c.H (⟨false,[],[]⟩:GRat)),g5)]) (sc O<|sn)) (am<|clZ O<|mU h λr5 r6 h=>?_)
 refine wk 12 λh=>?_
 refine cZ h O (λhb5 h=>?_) (λhb5 h=>?_)
 ·refine wk 7 λh=>?_
  exact uZ<|aj (v:=.nil) O<|aj (v:=.nil) O<|aj (v:=cw 39 r6) O<|aq<|ar hrg (VW.tupL<|vl' (VW.nilL)<|vl' (VW.nilL)<|vZ<|vn)<|hQ _ _ _ h
 refine wk 9 λh=>?_
 refine lpZ h (λy=>aw [(7,eL AV.bool r),(9,.sl 3 rg 28 g5 0 y.2.length),(15,eL af r5),(73,cp r2),(74,iZ (r2.length:Int)),(75,iZ y.1)]) (λy=>stL S rg [(28,.arr 3 (List.map af y.2),g5)]) (canon (fZ<|fc (VW.slen lzZ)<|gb<|fn)<|sc O<|sn) (λy _ h=>?_)
 obtain⟨x2,out⟩:=y
 refine wk 5 λh=>?_
 refine cZ h O (λhb6 h=>?_) (λhb6 h=>?_)
 ·refine wk 19 λh hg5 h hg6 h hi1 h=>?_
  refine am<|dH (aZ 28 O) bf dZ (x':=(at' r5 x2)) (λ_=>O) O O (bn hi1 lzZ) O O bY ?_
  exact wk 9999 trivial
 refine wk 9 λh=>?_
 exact uZ<|aj (v:=eL AV.bool r) O<|aj (v:=.sl 3 rg 28 g5 0 out.length) O<|aj (v:=.niface) O<|aq<|aP (k:=28) (xs:=List.map af out) O (v':=.tuple [eL AV.bool r,eL af out,.niface]) (VW.tupL<|vZ<|vl' (aL O)<|vZ<|vn)<|ar hrg eVw<|hQ _ _ _ h
theorem sC {c:GChain} {Q:List GRat->Option Int->Prop} (h:iP c Q) (hQ:∀r1 r2,Q r1 r2->R (.tuple [eL af r1,cw 39 r2]) S) :
  Ctr prog 18 [bq c] S R:=by
 refine au func18 rfl ntmps18 results18 krZ (λrg hrg=>?_)
 refine wk 9 λg1 h=>?_
 refine am<|clZ O<|sB h λr r1 r2 h=>?_
 refine wk 15 λh=>?_
 exact uZ<|aj (v:=eL af r1) O<|aj (v:=cw 39 r2) O<|aq<|ar hrg eVw<|hQ _ _ h
end Go.Proofs.YtcmagbhiioheeaaGreatDoor
