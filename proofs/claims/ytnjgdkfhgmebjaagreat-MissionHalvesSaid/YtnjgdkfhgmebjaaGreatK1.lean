/- Walks of functions. Conditions: none. -/
import Derived.Test.YtnjgdkfhgmebjaaGreatWa
import Derived.Test.YtnjgdkfhgmebjaaGreatGgTy
namespace Go.Proofs.YtnjgdkfhgmebjaaGreat
open Go.Gg Tryz
set_option maxRecDepth 100000
variable {S:St} {R:AV->St->Prop}
theorem bX {a:List Int} {Q:List Int->Prop} (h:b7 a Q) (hQ:∀r1,Q r1->R (ak r1) S) :
  Ctr prog 240 [ak a] S R:=by
 refine aI func240 rfl ntmps240 results240 krZ (λrg hrg=>?_)
 refine aj<|asZ .nil O<|aU<|mvZ (ak a) O<|ac<|aJ bi O<|asZ (iZ (a.length:Int)) O<|nZ<|jnZ h (λy=>ba [(0,ak a),(3,iZ y)]) (λy=>stL S rg []) (λn h=>?_) (λ_ h=>?_)
 ·refine qZ<|aj<|mvZ (iZ n) O<|ac<|bK O O<|nZ<|cZ h O (λhb h=>?_) (λhb h=>?_)
  ·exact aj<|asZ .nil O<|aE<|aC (v:=.nil) O<|aK<|aO hrg (VW.nilL)<|hQ _ h
  exact kZ<|aj<|wZ rg<|bq bi dJ cH (es:=[]) O (kk:=1) O O O O O O (λg1=>mvZ (ak a) O<|mvZ (iZ n) O<|tkZ h (λhg h=>ac<|fO bi bn dZ (λ_=>O) O (l:=0) (h:=n) O O hg<|tkZ h (λhg1 h=>wZ rg<|cS bi fU dJ cH (es:=([]:List Int)) (xs:=(bf a 0 n)) (enc:=AV.int .u32) (aZ 20 O) lzZ (O) (kk:=1) O O (λ_=>O) (λ_=>O) hg1 O (λ_=>aV) (λg2=>asZ (.sl 1 rg 20 g2 0<|(([]:List Int)++(bf a 0 n)).length) O (aE<|aC (v:=.sl 1 rg 20 g2 0 ((([]:List Int)++(bf a 0 n)).length)) O (aK<|br (k:=20) (xs:=List.map (AV.int .u32) (([]:List Int)++(bf a 0 n))) O (v':=ak (([]:List Int)++(bf a 0 n))) (bk O) (goZ hrg<|hQ _ h)))))))
 refine bZ<|lpZ h (λy=>ba [(0,ak a),(3,iZ y)]) (λy=>stL S rg []) (canon (fZ<|fZ<|fn)<|sn) (λn1 _ h=>qZ<|aj<|mvZ (iZ n1) O<|ac<|c9 O O<|mvZ (.bool<|decide<|0<n1) O<|gtZ h O O (λhb1 h=>?_) (λhb1 h=>?_))
 ·refine mvZ (ak a) O<|gTZ O O hb1<|mvZ (iZ n1) O<|gTZ O O hb1<|tkZ h (λhg2 h=>ac<|bW O O hg2<|gTZ O O hb1<|tkZ h (λhg3 h=>ac<|aQ bi bn dZ (λ_=>O) O O hg3<|gTZ O O hb1<|ac<|aL bn dv O O (v:=.int .u32 (at' a<|n1-1)) O (gTZ O O hb1<|ac<|bK O O<|ac<|be O hb1 (v:=.bool ((at' a<|n1-1) == 0)) O (nZ<|cZ h O (λhb2 h=>?_) (λhb2 h=>?_)))))
  ·exact kZ<|bZ<|rZ<|mvZ (iZ n1) O<|tkZ h (λhg4 h=>ac<|bW O O hg4<|asZ (iZ<|n1-1) O<|nZ<|⟨(n1-1),(canon (fZ<|fZ<|fn)<|sn),h⟩)
  exact xsZ<|⟨n1,(canon (fZ<|fZ<|fn)<|sn),h⟩
 exact gFZ O O hb1 O<|gFZ O O hb1 O<|gFZ O O hb1 O<|gFZ O O hb1 O<|gFZ O O hb1 O<|ac<|bd O hb1 (v:=.bool false) O<|nZ<|cFZ O O<|xsZ<|⟨n1,(canon (fZ<|fZ<|fn)<|sn),h⟩
theorem gy {a:List Int} {b:List Int} {Q:Int->Prop} (h:dV a b Q) (hQ:∀r1,Q r1->R (iZ r1) S) :
  Ctr prog 167 [ak a,ak b] S R:=by
 refine aI func167 rfl ntmps167 results167 krZ (λrg hrg=>?_)
 refine aj<|asZ (iZ 0) O<|aU<|mvZ (ak a) O<|ac<|clZ O<|bX h λa1 h=>mvZ (ak b) O<|ac<|clZ O<|bX h λb1 h=>asZ (ak a1) O<|asZ (ak b1) O<|nZ<|qZ<|aj<|mvZ (ak a1) O<|ac<|aJ bi O<|mvZ (ak b1) O<|ac<|aJ bi O<|ac<|c8 O O<|nZ<|cZ h O (λhb h=>?_) (λhb h=>?_)
 ·refine qZ<|aj<|mvZ (ak a1) O<|ac<|aJ bi O<|mvZ (ak b1) O<|ac<|aJ bi O<|ac<|bj O O<|nZ<|cZ h O (λhb1 h=>?_) (λhb1 h=>?_)
  ·exact aj<|asZ (iZ<|-1) O<|aE<|gv1 hrg<|hQ _ h
  exact kZ<|aj<|asZ (iZ 1) O<|aE<|gv1 hrg<|hQ _ h
 refine kZ<|qZ<|aj<|mvZ (ak a1) O<|ac<|aJ bi O<|tkZ h (λhg h=>ac<|bW O O hg<|asZ (iZ<|(a1.length:Int)-1) O<|nZ<|bZ<|lpZ h (λy=>ba [(0,ak a1),(1,ak b1),(5,iZ y)]) (λy=>stL S rg []) (canon (fZ<|fZ<|fZ<|fn)<|sn) (λi _ h=>qZ<|aj<|mvZ (iZ i) O<|ac<|fB O O<|nZ<|cZ h O (λhb2 h=>?_) (λhb2 h=>?_)))
 ·refine kZ<|qZ<|bZ<|qZ<|qZ<|tkZ h (λhg1 h=>tkZ h (λhg2 h=>Vc.drawn' bA rg (λ_=>fS) krZ<|dP O O<|aA (v:=ak a1) O<|dP O O<|aA (v:=iZ i) O<|dP O O<|aQ bi bn dZ (λ_=>O) O O hg1<|dP O O<|aL bn dv O O (v:=.int .u32 (at' a1 i)) O<|dP O O<|aA (v:=ak b1) O<|dP O O<|aA (v:=iZ i) O<|dP O O<|aQ bi bn dZ (λ_=>O) O O hg2<|dP O O<|aL bn dv O O (v:=.int .u32 (at' b1 i)) O<|dP O O<|bj O O<|dN<|cZ h O (λhb3 h=>?_) (λhb3 h=>?_)))
  ·exact aj<|asZ (iZ<|-1) O<|aE<|gv1 hrg<|hQ _ h
  refine kZ<|qZ<|tkZ h (λhg3 h=>tkZ h (λhg4 h=>Vc.drawn' bA rg (λ_=>fS) krZ<|dP O O<|aA (v:=ak a1) O<|dP O O<|aA (v:=iZ i) O<|dP O O<|aQ bi bn dZ (λ_=>O) O O hg3<|dP O O<|aL bn dv O O (v:=.int .u32 (at' a1 i)) O<|dP O O<|aA (v:=ak b1) O<|dP O O<|aA (v:=iZ i) O<|dP O O<|aQ bi bn dZ (λ_=>O) O O hg4<|dP O O<|aL bn dv O O (v:=.int .u32 (at' b1 i)) O<|dP O O<|c9 O O<|dN<|cZ h O (λhb4 h=>?_) (λhb4 h=>?_)))
  ·exact aj<|asZ (iZ 1) O<|aE<|gv1 hrg<|hQ _ h
  exact kZ<|rZ<|mvZ (iZ i) O<|tkZ h (λhg5 h=>ac<|bW O O hg5<|asZ (iZ<|i-1) O<|nZ<|⟨(i-1),(canon (fZ<|fZ<|fZ<|fn)<|sn),h⟩)
 exact xsZ<|aj<|asZ (iZ 0) O<|aE<|gv1 hrg<|hQ _ h
theorem oT {n:Int} {Q:List Int->Prop} (h:lw n Q) (hQ:∀r1,Q r1->R (ak r1) S) :
  Ctr prog 261 [iZ n] S R:=by
 refine aI func261 rfl ntmps261 results261 krZ (λrg hrg=>?_)
 refine aj<|asZ .nil O<|nZ<|qZ<|aj<|mvZ (iZ n) O<|ac<|ta O O<|nZ<|cZ h O (λhb h=>?_) (λhb h=>?_)
 ·exact aj<|asZ .nil O<|aE<|aC (v:=.nil) O<|aK<|aO hrg (VW.nilL)<|hQ _ h
 exact kZ<|aj<|mvZ (iZ n) O<|ac<|bL td3 cB O<|mvZ (iZ n) O<|ac<|i8 O O dZ<|ac<|bL td3 cB O<|wZ rg<|bq bi dJ cH (es:=[.int .u32 (IntKind.wrap .u32 n),.int .u32 (IntKind.wrap .u32<|n / 2^(Int.toNat 32))]) O (kk:=1) O O O O O O (λg1=>fw (bw (k:=10) (xs:=List.map (AV.int .u32) [(IntKind.wrap .u32 n),(IntKind.wrap .u32<|n / 2^(Int.toNat 32))]) O (es:=[(10,ak [(IntKind.wrap .u32 n),(IntKind.wrap .u32<|n / 2^(Int.toNat 32))])]) (fc (bk O)<|fn) (m:=[]) (sn)) (ac<|clZ O<|bX h λr h=>asZ (ak r) O<|aE<|gv1 hrg<|hQ _ h))
theorem rj {a:List Int} {b:Int} {Q:List Int->Int->Prop} (h:iO a b Q) (hQ:∀r1 r2,Q r1 r2->R (.tuple [ak r1,AV.int .u32 r2]) S) :
  Ctr prog 307 [ak a,AV.int .u32 b] S R:=by
 refine aI func307 rfl ntmps307 results307 krZ (λrg hrg=>?_)
 refine aj<|asZ .nil O<|asZ (.int .u32 0) O<|aU<|mvZ (ak a) O<|ac<|aJ bi O<|tkZ h (λhg h=>wZ rg<|gb bi fU dJ (enc:=AV.int .u32) (z':=0) cH (kk:=1) O O O hg (λg1=>asZ (.sl 1 rg 11 g1 0<|Int.toNat (a.length:Int)) O<|aU<|asZ (.int .u64 0) O<|nZ<|qZ<|aj<|mvZ (ak a) O<|ac<|aJ bi O<|tkZ h (λhg1 h=>ac<|bW O O hg1<|asZ (iZ<|(a.length:Int)-1) O<|nZ<|bZ<|lpZ h (λy=>ba [(0,ak a),(1,.int .u32 b),(6,.sl 1 rg 11 g1 0 y.2.2.length),(7,.int .u64 y.1),(8,iZ y.2.1)]) (λy=>stL S rg [(11,.arr 1 (List.map (AV.int .u32) y.2.2),g1)]) (canon (fZ<|fZ<|fc (VW.slen lzZ)<|fZ<|fZ<|fn)<|sc O<|sn) (λy _ h=>?_))))
 obtain⟨rest,i,out⟩:=y
 refine qZ<|aj<|mvZ (iZ i) O<|ac<|fB O O<|nZ<|cZ h O (λhb h=>?_) (λhb h=>?_)
 ·exact kZ<|qZ<|bZ<|aj<|mvZ (.int .u64 rest) O<|ac<|oP O O dZ<|mvZ (ak a) O<|mvZ (iZ i) O<|tkZ h (λhg2 h=>ac<|aQ bi bn dZ (λ_=>O) O O hg2<|ac<|aL bn dv O O (v:=.int .u32 (at' a i)) O<|ac<|bL cB cL O<|ac<|wD O O<|stZ h (λrest1 hs h=>wZ rg<|a9 (v:=.int .u64 rest1) (by subst hs;rfl)<|aU<|mvZ (.sl 1 rg 11 g1 0 out.length) O<|mvZ (iZ i) O<|mvZ (.int .u64 rest1) O<|mvZ (.int .u32 b) O<|ac<|bL cB cL O<|tkZ h (λhg3 h=>ac<|Bi O O hg3<|ac<|bL cL cB O<|tkZ h (λhi h=>ac<|bm bi bn dZ O O hi<|ac<|bR (aZ 11 O) bn dZ (x':=(IntKind.wrap .u32<|IntKind.wrap .u64<|Int.tdiv rest1<|IntKind.wrap .u64 b)) (λ_=>O) O O (bH hi lzZ) O O aV<|nZ<|rZ<|mvZ (.int .u64 rest1) O<|mvZ (.int .u32 b) O<|ac<|bL cB cL O<|tkZ h (λhg4 h=>ac<|Bh O O hg4<|asZ (.int .u64<|Int.tmod rest1<|IntKind.wrap .u64 b) O<|nZ<|rZ<|mvZ (iZ i) O<|tkZ h (λhg5 h=>ac<|bW O O hg5<|asZ (iZ<|i-1) O<|nZ<|⟨((Int.tmod rest1<|IntKind.wrap .u64 b),(i-1),(bu out i<|IntKind.wrap .u32<|IntKind.wrap .u64<|Int.tdiv rest1<|IntKind.wrap .u64 b)),(canon (fZ<|fZ<|fc (VW.slen lzZ)<|fZ<|fZ<|fn)<|sc O<|sn),h⟩))))))
 exact xsZ<|aj<|mvZ (.sl 1 rg 11 g1 0 out.length) O<|fw (bw (k:=11) (xs:=List.map (AV.int .u32) out) O (es:=[(7,.int .u64 rest),(39,ak out)]) (fZ<|fc (bk O)<|fn) (m:=[]) (sn)) (ac<|clZ O<|bX h λr h=>mvZ (.int .u64 rest) O<|ac<|bL cL cB O<|asZ (ak r) O<|asZ (.int .u32<|IntKind.wrap .u32 rest) O<|aE<|aC (v:=ak r) O<|aC (v:=.int .u32 (IntKind.wrap .u32 rest)) O<|aK<|aO hrg (VW.tupL<|vZ<|vZ<|vn)<|hQ _ _ h)
theorem lh {x:Int} {Q:Int->Prop} (h:gM x Q) (hQ:∀r1,Q r1->R (iZ r1) S) :
  Ctr prog 282 [AV.int .u32 x] S R:=by
 refine aI func282 rfl ntmps282 results282 krZ (λrg hrg=>?_)
 refine aj<|asZ (iZ 0) O<|nZ<|jnZ h (λy=>ba [(0,.int .u32 y.1),(2,iZ y.2)]) (λy=>stL S rg []) (λy h=>?_) (λ_ h=>?_)
 ·obtain⟨x1,n⟩:=y
  refine jnZ h (λy=>ba [(0,.int .u32 y.1),(2,iZ y.2)]) (λy=>stL S rg []) (λy h=>?_) (λ_ h=>?_)
  ·obtain⟨x2,n1⟩:=y
   exact aj<|mvZ (iZ n1) O<|mvZ (.int .u32 x2) O<|ac<|bL cB td5 O<|tkZ h (λhg h=>wZ rg<|Dy td9 krZ O hg<|ac<|bL td5 td3 O<|tkZ h (λhg1 h=>ac<|aG O O hg1<|stZ h (λn2 hs h=>wZ rg<|a9 (v:=iZ n2) (by subst hs;rfl)<|aE<|gv1 hrg<|hQ _ h)))
  refine aj<|mvZ (.int .u32 x1) O<|ac<|fB O O<|nZ<|cZ h O (λhb h=>?_) (λhb h=>?_)
  ·exact aj<|mvZ (.int .u32 x1) O<|ac<|i8 O O dZ<|asZ (.int .u32<|x1 / 2^(Int.toNat 8)) O<|nZ<|rZ<|mvZ (iZ n) O<|tkZ h (λhg2 h=>ac<|aG O O hg2<|asZ (iZ<|n+8) O<|nZ<|⟨((x1 / 2^(Int.toNat 8)),(n+8)),(canon (fZ<|fZ<|fn)<|sn),h⟩)
  exact kZ<|⟨(x1,n),(canon (fZ<|fZ<|fn)<|sn),h⟩
 refine aj<|mvZ (.int .u32 x) O<|ac<|fB O O<|nZ<|cZ h O (λhb1 h=>?_) (λhb1 h=>?_)
 ·exact aj<|mvZ (.int .u32 x) O<|ac<|i8 O O dZ<|asZ (.int .u32<|x / 2^(Int.toNat 16)) O<|nZ<|rZ<|asZ (iZ 16) O<|nZ<|⟨((x / 2^(Int.toNat 16)),16),(canon (fZ<|fZ<|fn)<|sn),h⟩
 exact kZ<|⟨(x,0),(canon (fZ<|fZ<|fn)<|sn),h⟩
theorem kP {x:Int} {Q:Int->Prop} (h:e8 x Q) (hQ:∀r1,Q r1->R (iZ r1) S) :
  Ctr prog 308 [AV.int .u32 x] S R:=by
 refine aI func308 rfl ntmps308 results308 krZ (λrg hrg=>?_)
 exact aj<|asZ (iZ 0) O<|aU<|mvZ (.int .u32 x) O<|ac<|clZ O<|lh h λr h=>tkZ h (λhg h=>ac<|bW O O hg<|asZ (iZ<|32-r) O<|aE<|gv1 hrg<|hQ _ h)
theorem sw {a:List Int} {n:Int} {Q:List Int->Prop} (h:e7 a n Q) (hQ:∀r1,Q r1->R (ak r1) S) :
  Ctr prog 309 [ak a,iZ n] S R:=by
 refine aI func309 rfl ntmps309 results309 krZ (λrg hrg=>?_)
 refine aj<|asZ .nil O<|aU<|mvZ (ak a) O<|ac<|aJ bi O<|tkZ h (λhg h=>ac<|aG O O hg<|tkZ h (λhg1 h=>wZ rg<|gb bi fU dJ (enc:=AV.int .u32) (z':=0) cH (kk:=1) O O O hg1 (λg1=>asZ (.sl 1 rg 12 g1 0<|Int.toNat<|(a.length:Int)+1) O<|nZ<|qZ<|aj<|mvZ (ak a) O<|ac<|aJ bi O<|mvZ (iZ 0) O<|nZ<|bZ<|lpZ h (λy=>ba [(1,iZ n),(5,.sl 1 rg 12 g1 0 y.2.length),(13,ak a),(14,iZ (a.length:Int)),(15,iZ y.1)]) (λy=>stL S rg [(12,.arr 1 (List.map (AV.int .u32) y.2),g1)]) (canon (fZ<|fc (VW.slen lzZ)<|fZ<|fZ<|fZ<|fn)<|sc O<|sn) (λy _ h=>?_))))
 obtain⟨x,out⟩:=y
 refine aj<|ac<|bj O O<|nZ<|qZ<|cZ h O (λhb h=>?_) (λhb h=>?_)
 ·refine kZ<|qZ<|bZ<|aj<|mvZ (iZ x) O<|tkZ h (λhg2 h=>ac<|aQ bi bn dZ (λ_=>O) O O hg2<|ac<|aL bn dv O O (v:=.int .u32 (at' a x)) O<|asZ (iZ x) O<|asZ (.int .u32<|at' a x) O<|aU<|mvZ (.int .u32<|at' a x) O<|ac<|bL cB cL O<|mvZ (iZ n) O<|tkZ h (λhg3 h=>ac<|oP O O hg3<|stZ h (λy1 hs h=>wZ rg<|a9 (v:=.int .u64 y1) (by subst hs;rfl)<|aU<|mvZ (.sl 1 rg 12 g1 0 out.length) O<|mvZ (iZ x) O<|tkZ h (λhi h=>ac<|bm bi bn dZ O O hi<|ac<|cc (aZ 12 O) bn dv O (bH hi lzZ) O (v:=.int .u32 (at' out x)) O<|mvZ (.int .u64 y1) O<|ac<|bL cL cB O<|ac<|wD O O<|tkZ h (λhi1 h=>ac<|bm bi bn dZ O O hi1<|ac<|bR (aZ 12 O) bn dZ (x':=(bits .or .u32 (at' out x)<|IntKind.wrap .u32 y1)) (λ_=>O) O O (bH hi1 lzZ) O O aV<|nZ<|rZ<|mvZ (.sl 1 rg 12 g1 0 out.length) O<|mvZ (iZ x) O<|tkZ h (λhg4 h=>ac<|aG O O hg4<|mvZ (.int .u64 y1) O<|ac<|i8 O O dZ<|ac<|bL cL cB O<|tkZ h (λhi2 h=>ac<|bm bi bn dZ O O hi2<|ac<|bR (aZ 12 O) bn dZ (x':=(IntKind.wrap .u32<|y1 / 2^(Int.toNat 32))) (λ_=>O) O O (bH hi2 lzZ) O O aV<|nZ<|rZ<|tkZ h (λhg5 h=>ac<|aG O O hg5<|mvZ (iZ<|x+1) O<|nZ ?_))))))))
  exact⟨((x+1),(bu (bu out x<|bits .or .u32 (at' out x)<|IntKind.wrap .u32 y1) (x+1)<|IntKind.wrap .u32<|y1 / 2^(Int.toNat 32))),(canon (fZ<|fc (VW.slen lzZ)<|fZ<|fZ<|fZ<|fn)<|sc O<|sn),h⟩
 exact xsZ<|aj<|mvZ (.sl 1 rg 12 g1 0 out.length) O<|asZ (.sl 1 rg 12 g1 0 out.length) O<|aE<|aC (v:=.sl 1 rg 12 g1 0 out.length) O<|aK<|br (k:=12) (xs:=List.map (AV.int .u32) out) O (v':=ak out) (bk O)<|goZ hrg<|hQ _ h
theorem rl {a:List Int} {n:Int} (q k:Nat) {Q:List Int->Prop} {S:St} {R:AV->St->Prop} (h:e7 a n Q) (hQ:∀r1 g,Q r1->R (.sl 1 q k g 0 r1.length) (S.set q k (.arr 1 (List.map (AV.int .u32) r1)) g)) :
  Ctr prog 309 [ak a,iZ n] S R:=by
 unfold e7 at h
 refine aI func309 rfl ntmps309 results309 krZ (λrg hrg=>?_)
 refine aj<|asZ .nil O<|aU<|mvZ (ak a) O<|ac<|aJ bi O<|tkZ h (λhg h=>ac<|aG O O hg<|tkZ h (λhg1 h=>wZ rg<|gb bi fU dJ (enc:=AV.int .u32) (z':=0) cH (kk:=1) O O O hg1 (λg1=>asZ (.sl 1 rg 12 g1 0<|Int.toNat<|(a.length:Int)+1) O<|nZ<|qZ<|aj<|mvZ (ak a) O<|ac<|aJ bi O<|mvZ (iZ 0) O<|nZ<|bZ<|lpZ h (λy=>ba [(1,iZ n),(5,.sl 1 rg 12 g1 0 y.2.length),(13,ak a),(14,iZ (a.length:Int)),(15,iZ y.1)]) (λy=>stL S rg [(12,.arr 1 (List.map (AV.int .u32) y.2),g1)]) (canon (fZ<|fc (VW.slen lzZ)<|fZ<|fZ<|fZ<|fn)<|sc O<|sn) (λy _ h=>?_))))
 obtain⟨x,out⟩:=y
 refine aj<|ac<|bj O O<|nZ<|qZ<|cZ h O (λhb h=>?_) (λhb h=>?_)
 ·refine kZ<|qZ<|bZ<|aj<|mvZ (iZ x) O<|tkZ h (λhg2 h=>ac<|aQ bi bn dZ (λ_=>O) O O hg2<|ac<|aL bn dv O O (v:=.int .u32 (at' a x)) O<|asZ (iZ x) O<|asZ (.int .u32<|at' a x) O<|aU<|mvZ (.int .u32<|at' a x) O<|ac<|bL cB cL O<|mvZ (iZ n) O<|tkZ h (λhg3 h=>ac<|oP O O hg3<|stZ h (λy1 hs h=>wZ rg<|a9 (v:=.int .u64 y1) (by subst hs;rfl)<|aU<|mvZ (.sl 1 rg 12 g1 0 out.length) O<|mvZ (iZ x) O<|tkZ h (λhi h=>ac<|bm bi bn dZ O O hi<|ac<|cc (aZ 12 O) bn dv O (bH hi lzZ) O (v:=.int .u32 (at' out x)) O<|mvZ (.int .u64 y1) O<|ac<|bL cL cB O<|ac<|wD O O<|tkZ h (λhi1 h=>ac<|bm bi bn dZ O O hi1<|ac<|bR (aZ 12 O) bn dZ (x':=(bits .or .u32 (at' out x)<|IntKind.wrap .u32 y1)) (λ_=>O) O O (bH hi1 lzZ) O O aV<|nZ<|rZ<|mvZ (.sl 1 rg 12 g1 0 out.length) O<|mvZ (iZ x) O<|tkZ h (λhg4 h=>ac<|aG O O hg4<|mvZ (.int .u64 y1) O<|ac<|i8 O O dZ<|ac<|bL cL cB O<|tkZ h (λhi2 h=>ac<|bm bi bn dZ O O hi2<|ac<|bR (aZ 12 O) bn dZ (x':=(IntKind.wrap .u32<|y1 / 2^(Int.toNat 32))) (λ_=>O) O O (bH hi2 lzZ) O O aV<|nZ<|rZ<|tkZ h (λhg5 h=>ac<|aG O O hg5<|mvZ (iZ<|x+1) O<|nZ ?_))))))))
  exact⟨((x+1),(bu (bu out x<|bits .or .u32 (at' out x)<|IntKind.wrap .u32 y1) (x+1)<|IntKind.wrap .u32<|y1 / 2^(Int.toNat 32))),(canon (fZ<|fc (VW.slen lzZ)<|fZ<|fZ<|fZ<|fn)<|sc O<|sn),h⟩
 refine xsZ<|aj<|mvZ (.sl 1 rg 12 g1 0 out.length) O<|asZ (.sl 1 rg 12 g1 0 out.length) O<|aE<|aC (v:=.sl 1 rg 12 g1 0 out.length) O<|aK ?_
 show fe _ (.sl 1 rg 12 g1 0 out.length) _
 exact Cp q k hrg O (λg'=>hQ _ g' h)
theorem c_ {a:List Int} {i:Int} {Q:Int->Prop} (h:cX a i Q) (hQ:∀r1,Q r1->R (AV.int .u64 r1) S) :
  Ctr prog 244 [ak a,iZ i] S R:=by
 refine aI func244 rfl ntmps244 results244 krZ (λrg hrg=>?_)
 refine aj<|asZ (.int .u64 0) O<|nZ<|qZ<|aj<|mvZ (iZ i) O<|mvZ (ak a) O<|ac<|aJ bi O<|ac<|bj O O<|nZ<|cZ h O (λhb h=>?_) (λhb h=>?_)
 ·exact aj<|mvZ (ak a) O<|mvZ (iZ i) O<|tkZ h (λhg h=>ac<|aQ bi bn dZ (λ_=>O) O O hg<|ac<|aL bn dv O O (v:=.int .u32 (at' a i)) O<|ac<|bL cB cL O<|asZ (.int .u64<|IntKind.wrap .u64<|at' a i) O<|aE<|gv1 hrg<|hQ _ h)
 exact kZ<|aj<|asZ (.int .u64 0) O<|aE<|gv1 hrg<|hQ _ h
theorem sv {u:List Int} {uo:Nat} {ul:Nat} {v:List Int} {n:Int} {q0 k0 g0:Nat} {Q:List Int->Bool->Prop} (h:l8 u uo ul v n Q) (hQ:∀r1 r2,Q r1 r2->R (AV.bool r2) (stX S [(q0,k0,.arr 1 (List.map (AV.int .u32) r1),g0)])) :
  Ctr prog 310 [.sl 1 q0 k0 g0 uo ul,ak v,AV.int .u64 n] (stX S [(q0,k0,.arr 1 (List.map (AV.int .u32) u),g0)]) R:=by
 refine aI func310 rfl ntmps310 results310 krZ (λrg hrg=>?_)
 have hdx:DX [(q0,k0,.arr 1 (List.map (AV.int .u32) u),g0)]:=dx1
 have hfr:=λX' e=>bY (S:=S) (rg:=rg) (X:=[(q0,k0,.arr 1 (List.map (AV.int .u32) u),g0)]) (X':=X') e hrg
 have hne0:=az hdx hrg 0 rfl
 refine aj<|asZ (.bool false) O<|aU<|asZ (.int .u64 0) O<|asZ (.int .u64 0) O<|nZ<|qZ<|aj<|mvZ (.sl 1 q0 k0 g0 uo ul) O<|ac<|gW bi O<|mvZ (iZ 0) O<|nZ<|bZ<|lpZ h (λy=>ba [(0,.sl 1 q0 k0 g0 uo ul),(1,ak v),(2,.int .u64 n),(7,.int .u64 y.1),(8,.int .u64 y.2.1),(12,iZ (ul:Int)),(13,iZ y.2.2.1)]) (λy=>stL (stX S [(q0,k0,.arr 1 (List.map (AV.int .u32) y.2.2.2),g0)]) rg []) (canon (aP<|fZ<|fZ<|fZ<|fn)<|sn) (λy _ h=>?_)
 obtain⟨carry,borrow,x,u1⟩:=y
 refine aj<|ac<|bj O O<|nZ<|qZ<|cZ h O (λhb h=>?_) (λhb h=>?_)
 ·refine kZ<|qZ<|bZ<|aj<|mvZ (iZ x) O<|asZ (iZ x) O<|aU<|mvZ (.int .u64 carry) O<|mvZ (.int .u64 n) O<|mvZ (ak v) O<|mvZ (iZ x) O<|ac<|clZ O<|c_ h λr h=>ac<|zg O O<|ac<|nq O O<|stZ h (λcarry1 hs h=>wZ rg<|a9 (v:=.int .u64 carry1) (by subst hs;rfl)<|aU<|mvZ (.sl 1 q0 k0 g0 uo ul) O<|mvZ (iZ x) O<|tkZ h (λhi h=>ac<|t7 bi bn dZ O O hi<|tkZ h (λhg h=>ac<|cc (atX hne0 hdx 0 O) bn dv O (hg) O (v:=.int .u32 (at' u1<|(uo:Int)+x)) O (ac<|bL cB cL O<|mvZ (.int .u64 carry1) O<|ac<|bL cL cB O<|ac<|bL cB cL O<|ac<|p7 O O<|mvZ (.int .u64 borrow) O<|ac<|p7 O O<|stZ h (λd hs1 h=>wZ rg<|a9 (v:=.int .u64 d) (by subst hs1;rfl)<|aU<|mvZ (.sl 1 q0 k0 g0 uo ul) O<|mvZ (iZ x) O<|mvZ (.int .u64 d) O<|ac<|bL cL cB O<|tkZ h (λhi1 h=>ac<|t7 bi bn dZ O O hi1<|tkZ h (λhg1 h=>ac<|bR (atX hne0 hdx 0 O) bn dZ (x':=(IntKind.wrap .u32 d)) (λ_=>O) O O (hg1) O O (bU hne0 hdx 0 O O)<|aU<|mvZ (.int .u64 d) O<|ac<|i8 O O dZ<|asZ (.int .u64<|d / 2^(Int.toNat 63)) O<|nZ<|rZ<|mvZ (.int .u64 carry1) O<|ac<|i8 O O dZ<|asZ (.int .u64<|carry1 / 2^(Int.toNat 32)) O<|nZ<|rZ<|tkZ h (λhg2 h=>ac<|aG O O hg2<|mvZ (iZ<|x+1) O<|nZ ?_))))))))
  exact⟨((carry1 / 2^(Int.toNat 32)),(d / 2^(Int.toNat 63)),(x+1),(bu u1 ((uo:Int)+x)<|IntKind.wrap .u32 d)),(canon (aP<|fZ<|fZ<|fZ<|fn)<|sn),h⟩
 exact xsZ<|aj<|mvZ (.int .u64 borrow) O<|ac<|bK O O<|asZ (.bool<|borrow == 1) O<|aE<|gv1 (hfr _ O)<|hQ _ _ h
theorem sx {u:List Int} {uo:Nat} {ul:Nat} {v:List Int} {q0 k0 g0:Nat} {Q:List Int->Prop} (h:l9 u uo ul v Q) (hQ:∀r1,Q r1->R (.tuple []) (stX S [(q0,k0,.arr 1 (List.map (AV.int .u32) r1),g0)])) :
  Ctr prog 311 [.sl 1 q0 k0 g0 uo ul,ak v] (stX S [(q0,k0,.arr 1 (List.map (AV.int .u32) u),g0)]) R:=by
 refine aI func311 rfl ntmps311 results311 krZ (λrg hrg=>?_)
 have hdx:DX [(q0,k0,.arr 1 (List.map (AV.int .u32) u),g0)]:=dx1
 have hfr:=λX' e=>bY (S:=S) (rg:=rg) (X:=[(q0,k0,.arr 1 (List.map (AV.int .u32) u),g0)]) (X':=X') e hrg
 have hne0:=az hdx hrg 0 rfl
 refine aj<|asZ (.int .u64 0) O<|aU<|mvZ (.sl 1 q0 k0 g0 uo ul) O<|ac<|gW bi O<|mvZ (iZ 0) O<|nZ<|bZ<|lpZ h (λy=>ba [(0,.sl 1 q0 k0 g0 uo ul),(1,ak v),(4,.int .u64 y.1),(7,iZ (ul:Int)),(8,iZ y.2.1)]) (λy=>stL (stX S [(q0,k0,.arr 1 (List.map (AV.int .u32) y.2.2),g0)]) rg []) (canon (aP<|fZ<|fn)<|sn) (λy _ h=>?_)
 obtain⟨carry,x,u1⟩:=y
 refine aj<|ac<|bj O O<|nZ<|qZ<|cZ h O (λhb h=>?_) (λhb h=>?_)
 ·refine kZ<|qZ<|bZ<|aj<|mvZ (iZ x) O<|asZ (iZ x) O<|nZ<|qZ<|tkZ h (λhi h=>tkZ h (λhg h=>?_))
  obtain⟨r,hc,h⟩:=h
  refine Vc.drawn' bA rg (fH [(8,pc (.int .u64 r))]) krZ<|dP O O<|aA (v:=.int .u64 carry) O<|dP O O<|aA (v:=.sl 1 q0 k0 g0 uo ul) O<|dP O O<|aA (v:=iZ x) O<|dP O O<|t7 bi bn dZ O O hi<|dL (E:=([(q0,k0)],[])) O O zSm (cfn) (cc (atX hne0 hdx 0 O) bn dv O (hg) O (v:=.int .u32 (at' u1<|(uo:Int)+x)) O (dP O O<|bL cB cL O<|dP O O<|aA (v:=ak v) O<|dP O O<|aA (v:=iZ x) O<|dC (vs:=[ak v,iZ x]) O (vZ<|vZ<|vn) (λ_=>c_ hc (λ_ hr=>⟨by rw[hr],rfl⟩)) O<|dP O O<|nq O O<|dP O O<|nq O O<|dP O O<|a9 (v:=.int .u64 (IntKind.wrap .u64<|carry+(IntKind.wrap .u64<|(IntKind.wrap .u64<|at' u1<|(uo:Int)+x)+r))) O (dN<|aj<|mvZ (.sl 1 q0 k0 g0 uo ul) O<|mvZ (iZ x) O<|mvZ (.int .u64<|IntKind.wrap .u64<|carry+(IntKind.wrap .u64<|(IntKind.wrap .u64<|at' u1<|(uo:Int)+x)+r)) O (ac<|bL cL cB O<|tkZ h (λhi1 h=>ac<|t7 bi bn dZ O O hi1<|tkZ h (λhg1 h=>ac<|bR (atX hne0 hdx 0 O) bn dZ (x':=(IntKind.wrap .u32<|IntKind.wrap .u64<|carry+(IntKind.wrap .u64<|(IntKind.wrap .u64<|at' u1<|(uo:Int)+x)+r))) (λ_=>O) O O (hg1) O O (bU hne0 hdx 0 O O)<|nZ<|rZ<|mvZ (.int .u64<|IntKind.wrap .u64<|carry+(IntKind.wrap .u64<|(IntKind.wrap .u64<|at' u1<|(uo:Int)+x)+r)) O (ac<|i8 O O dZ<|stZ h (λcarry1 hs h=>?_))))))))
  exact wZ rg<|a9 (v:=.int .u64 carry1) (by subst hs;rfl)<|nZ<|rZ<|tkZ h (λhg2 h=>ac<|aG O O hg2<|mvZ (iZ<|x+1) O<|nZ<|⟨(carry1,(x+1),(bu u1 ((uo:Int)+x)<|IntKind.wrap .u32<|IntKind.wrap .u64<|carry+(IntKind.wrap .u64<|(IntKind.wrap .u64<|at' u1<|(uo:Int)+x)+r))),(canon (aP<|fZ<|fn)<|sn),h⟩)
 exact xsZ<|gv0 (hfr _ O)<|hQ _ h
theorem rk {a:List Int} {n:Int} {Q:List Int->Prop} (h:iP a n Q) (hQ:∀r1,Q r1->R (ak r1) S) :
  Ctr prog 312 [ak a,iZ n] S R:=by
 refine aI func312 rfl ntmps312 results312 krZ (λrg hrg=>?_)
 refine aj<|asZ .nil O<|aU<|mvZ (ak a) O<|ac<|aJ bi O<|tkZ h (λhg h=>wZ rg<|gb bi fU dJ (enc:=AV.int .u32) (z':=0) cH (kk:=1) O O O hg (λg1=>asZ (.sl 1 rg 9 g1 0<|Int.toNat (a.length:Int)) O<|nZ<|qZ<|aj<|mvZ (ak a) O<|ac<|aJ bi O<|mvZ (iZ 0) O<|nZ<|bZ<|lpZ h (λy=>ba [(0,ak a),(1,iZ n),(5,.sl 1 rg 9 g1 0 y.2.length),(11,iZ (a.length:Int)),(12,iZ y.1)]) (λy=>stL S rg [(9,.arr 1 (List.map (AV.int .u32) y.2),g1)]) (canon (fZ<|fZ<|fc (VW.slen lzZ)<|fZ<|fZ<|fn)<|sc O<|sn) (λy _ h=>?_)))
 obtain⟨x,out⟩:=y
 refine aj<|ac<|bj O O<|nZ<|qZ<|cZ h O (λhb h=>?_) (λhb h=>?_)
 ·exact kZ<|qZ<|bZ<|aj<|mvZ (iZ x) O<|asZ (iZ x) O<|nZ<|rZ<|mvZ (.sl 1 rg 9 g1 0 out.length) O<|mvZ (iZ x) O<|mvZ (ak a) O<|mvZ (iZ x) O<|ac<|clZ O<|c_ h λr h=>mvZ (ak a) O<|mvZ (iZ x) O<|tkZ h (λhg1 h=>ac<|aG O O hg1<|ac<|clZ O<|c_ h λr1 h=>ac<|oP O O dZ<|ac<|wD O O<|mvZ (iZ n) O<|tkZ h (λhg2 h=>ac<|i8 O O hg2<|ac<|bL cL cB O<|tkZ h (λhi h=>ac<|bm bi bn dZ O O hi<|ac<|bR (aZ 9 O) bn dZ (x':=(IntKind.wrap .u32<|(bits .or .u64 r<|IntKind.wrap .u64<|r1*2^(Int.toNat 32)) / 2^(Int.toNat n))) (λ_=>O) O O (bH hi lzZ) O O aV<|nZ<|rZ<|tkZ h (λhg3 h=>ac<|aG O O hg3<|mvZ (iZ<|x+1) O<|nZ<|⟨((x+1),(bu out x<|IntKind.wrap .u32<|(bits .or .u64 r<|IntKind.wrap .u64<|r1*2^(Int.toNat 32)) / 2^(Int.toNat n))),(canon (fZ<|fZ<|fc (VW.slen lzZ)<|fZ<|fZ<|fn)<|sc O<|sn),h⟩))))
 exact xsZ<|aj<|mvZ (.sl 1 rg 9 g1 0 out.length) O<|asZ (.sl 1 rg 9 g1 0 out.length) O<|aE<|aC (v:=.sl 1 rg 9 g1 0 out.length) O<|aK<|br (k:=9) (xs:=List.map (AV.int .u32) out) O (v':=ak out) (bk O)<|goZ hrg<|hQ _ h
theorem kM {a:List Int} {b:List Int} {Q:List Int->List Int->Option Int->Prop} (h:iJ a b Q) (hQ:∀r1 r2 r3,Q r1 r2 r3->R (.tuple [ak r1,ak r2,aY 82 r3]) S) :
  Ctr prog 243 [ak a,ak b] S R:=by
 refine aI func243 rfl ntmps243 results243 krZ (λrg hrg=>?_)
 refine aj<|asZ .nil O<|asZ .nil O<|asZ .niface O<|aU<|mvZ (ak a) O<|ac<|clZ O<|bX h λa1 h=>mvZ (ak b) O<|ac<|clZ O<|bX h λb1 h=>asZ (ak a1) O<|asZ (ak b1) O<|nZ<|qZ<|aj<|mvZ (ak b1) O<|ac<|aJ bi O<|ac<|bK O O<|nZ<|cZ h O (λhb h=>?_) (λhb h=>?_)
 ·exact aj<|ac<|cm (by rw[gQ];trivial) (v:=iZ 8) O<|asZ .nil O<|asZ .nil O<|asZ (.iface 82<|iZ 8) O<|aE<|aC (v:=.nil) O<|aC (v:=.nil) O<|aC (v:=.iface 82 (iZ 8)) O<|aK<|aO hrg (VW.tupL<|vl' (VW.nilL)<|vl' (VW.nilL)<|vZ<|vn)<|hQ _ _ _ h
 refine kZ<|qZ<|aj<|mvZ (ak a1) O<|mvZ (ak b1) O<|ac<|clZ O<|gy h λr h=>ac<|bj O O<|nZ<|cZ h O (λhb1 h=>?_) (λhb1 h=>?_)
 ·exact aj<|mvZ (ak a1) O<|asZ .nil O<|asZ (ak a1) O<|asZ .niface O<|aE<|aC (v:=.nil) O<|aC (v:=ak a1) O<|aC (v:=.niface) O<|aK<|aO hrg (VW.tupL<|vl' (VW.nilL)<|vZ<|vZ<|vn)<|hQ _ _ _ h
 refine kZ<|qZ<|aj<|mvZ (ak b1) O<|ac<|aJ bi O<|ac<|bK O O<|nZ<|cZ h O (λhb2 h=>?_) (λhb2 h=>?_)
 ·exact aj<|mvZ (ak a1) O<|mvZ (ak b1) O<|tkZ h (λhg h=>ac<|aQ bi bn dZ (λ_=>O) O O hg<|ac<|aL bn dv O O (v:=.int .u32 (at' b1 0)) O<|ac<|clZ O<|rj h λr1 r2 h=>mvZ (.tuple [ak r1,.int .u32 r2]) O<|ac<|ar (v:=ak r1) O O O<|ac<|ar (v:=.int .u32 r2) O O O<|asZ (ak r1) O<|asZ (.int .u32 r2) O<|aU<|mvZ (ak r1) O<|mvZ (.int .u32 r2) O<|ac<|bL cB td3 O<|ac<|clZ O<|oT h λr3 h=>asZ (ak r1) O<|asZ (ak r3) O<|asZ .niface O<|aE<|aC (v:=ak r1) O<|aC (v:=ak r3) O<|aC (v:=.niface) O<|aK<|aO hrg (VW.tupL<|vZ<|vZ<|vZ<|vn)<|hQ _ _ _ h)
 refine kZ<|aj<|mvZ (ak b1) O<|mvZ (ak b1) O<|ac<|aJ bi O<|tkZ h (λhg1 h=>ac<|bW O O hg1<|tkZ h (λhg2 h=>ac<|aQ bi bn dZ (λ_=>O) O O hg2<|ac<|aL bn dv O O (v:=.int .u32 (at' b1<|(b1.length:Int)-1)) O (ac<|clZ O<|kP h λn h=>asZ (iZ n) O<|aU<|mvZ (ak b1) O<|mvZ (iZ n) O<|ac<|clZ O<|sw h λr4 h=>mvZ (ak b1) O<|ac<|aJ bi O<|tkZ h (λhg3 h=>ac<|fO bi bn dZ (λ_=>O) O (l:=0) (h:=(b1.length:Int)) O O hg3<|stZ h (λv hs h=>wZ rg<|a9 (v:=ak v) (by subst hs;rfl)<|aU<|mvZ (ak a1) O<|mvZ (iZ n) O<|ac<|clZ O<|rl rg 61 h λu g1 h=>ck aV<|asZ (.sl 1 rg 61 g1 0 u.length) O<|nZ<|qZ<|tkZ h (λhg4 h=>tkZ h (λhg5 h=>tkZ h (λhg6 h=>tkZ h (λhg7 h=>Vc.drawn' bA rg (λ_=>fS) krZ<|dP O O<|aA (v:=ak v) O<|dP O O<|aA (v:=ak v) O<|dP O O<|aJ bi O<|dP O O<|bW O O hg4<|dP O O<|aQ bi bn dZ (λ_=>O) O O hg5<|dP O O<|aL bn dv O O (v:=.int .u32 (at' v<|(v.length:Int)-1)) O (dP O O<|bL cB cL O<|dP O O<|aA (v:=ak v) O<|dP O O<|aA (v:=ak v) O<|dP O O<|aJ bi O<|dP O O<|bW O O hg6<|dP O O<|aQ bi bn dZ (λ_=>O) O O hg7 ?_))))))))))
 refine dP O O<|aL bn dv O O (v:=.int .u32 (at' v<|(v.length:Int)-2)) O (dP O O<|bL cB cL O<|dP O O<|a9 (v:=.int .u64 (IntKind.wrap .u64<|at' v<|(v.length:Int)-1)) O (dP O O<|a9 (v:=.int .u64 (IntKind.wrap .u64<|at' v<|(v.length:Int)-2)) O (dN<|aj<|mvZ (.sl 1 rg 61 g1 0 u.length) O<|ac<|gW bi O<|mvZ (ak v) O<|ac<|aJ bi O<|tkZ h (λhg8 h=>ac<|bW O O hg8<|tkZ h (λhg9 h=>wZ rg<|gb bi fU dJ (enc:=AV.int .u32) (z':=0) cH (kk:=1) O O O hg9 (λg2=>asZ (.sl 1 rg 81 g2 0<|Int.toNat<|(u.length:Int)-(v.length:Int)) O<|nZ<|qZ<|aj<|mvZ (.sl 1 rg 81 g2 0<|Int.toNat<|(u.length:Int)-(v.length:Int)) O<|ac<|gW bi O<|tkZ h (λhg10 h=>ac<|bW O O hg10<|stZ h (λj hs1 h=>wZ rg<|a9 (v:=iZ j) (by subst hs1;rfl)<|nZ<|bZ<|lgZ h (g1,g2) (λy=>ba [(4,.sl 1 rg 81 y.2.2 0 y.1.2.2.length),(9,iZ n),(10,ak v),(11,.sl 1 rg 61 y.2.1 0 y.1.2.1.length),(12,.int .u64 (IntKind.wrap .u64<|at' v<|(v.length:Int)-1)),(13,.int .u64 (IntKind.wrap .u64<|at' v<|(v.length:Int)-2)),(14,iZ y.1.1)]) (λy=>stL S rg [(61,.arr 1 (List.map (AV.int .u32) y.1.2.1),y.2.1),(81,.arr 1 (List.map (AV.int .u32) y.1.2.2),y.2.2)]) (canon (fc (VW.slen lzZ)<|aP<|fZ<|fZ<|fn)<|sc O<|sc O<|sn) (λy _ h=>?_)))))))))
 obtain⟨⟨j1,u1,q⟩,⟨g3,g4⟩⟩:=y
 refine qZ<|aj<|mvZ (iZ j1) O<|ac<|fB O O<|nZ<|cZ h O (λhb3 h=>?_) (λhb3 h=>?_)
 ·refine kZ<|qZ<|bZ<|qZ<|tkZ h (λhg11 h=>tkZ h (λhi h=>tkZ h (λhg12 h=>tkZ h (λhg13 h=>tkZ h (λhi1 h=>Vc.drawn' bA rg (λ_=>fS) krZ<|dP O O<|aA (v:=.sl 1 rg 61 g3 0 u1.length) O<|dP O O<|aA (v:=iZ j1) O<|dP O O<|aA (v:=ak v) O<|dP O O<|aJ bi O<|dP O O<|aG O O hg11<|dP O O<|bm bi bn dZ O O hi<|dL (E:=([(rg,61)],[])) O O zSm (cfn) (cc (aZ 61 O) bn dv O (bH hi lzZ) O (v:=.int .u32 (at' u1<|j1+(v.length:Int))) O (dP O O<|bL cB cL O<|dP O O<|oP O O dZ<|dP O O<|aA (v:=.sl 1 rg 61 g3 0 u1.length) O<|dP O O<|aA (v:=iZ j1) O<|dP O O<|aA (v:=ak v) O<|dP O O<|aJ bi O<|dP O O<|aG O O hg12<|dP O O<|bW O O hg13<|dP O O<|bm bi bn dZ O O hi1<|dL (E:=([(rg,61)],[])) O O zSm (cfa zAp<|cfn) (cc (aZ 61 O) bn dv O (bH hi1 lzZ) O (v:=.int .u32 (at' u1<|(j1+(v.length:Int))-1)) O (dP O O<|bL cB cL O<|dP O O<|wD O O<|dP O O<|a9 (v:=.int .u64 (bits .or .u64 (IntKind.wrap .u64<|(IntKind.wrap .u64<|at' u1<|j1+(v.length:Int))*2^(Int.toNat 32)) (IntKind.wrap .u64<|at' u1<|(j1+(v.length:Int))-1))) O (dN<|qZ<|tkZ h (λhg14 h=>tkZ h (λhg15 h=>Vc.drawn' bA rg (λ_=>fS) krZ ?_))))))))))))
  refine dP O O<|aA (v:=.int .u64 (bits .or .u64 (IntKind.wrap .u64<|(IntKind.wrap .u64<|at' u1<|j1+(v.length:Int))*2^(Int.toNat 32)) (IntKind.wrap .u64<|at' u1<|(j1+(v.length:Int))-1))) O (dP O O<|aA (v:=.int .u64 (IntKind.wrap .u64<|at' v<|(v.length:Int)-1)) O (dP O O<|Bi O O hg14<|dP O O<|aA (v:=.int .u64 (bits .or .u64 (IntKind.wrap .u64<|(IntKind.wrap .u64<|at' u1<|j1+(v.length:Int))*2^(Int.toNat 32)) (IntKind.wrap .u64<|at' u1<|(j1+(v.length:Int))-1))) O (dP O O<|aA (v:=.int .u64 (IntKind.wrap .u64<|at' v<|(v.length:Int)-1)) O (dP O O<|Bh O O hg15<|dP O O<|a9 (v:=.int .u64 (IntKind.wrap .u64<|Int.tdiv (bits .or .u64 (IntKind.wrap .u64<|(IntKind.wrap .u64<|at' u1<|j1+(v.length:Int))*2^(Int.toNat 32)) (IntKind.wrap .u64<|at' u1<|(j1+(v.length:Int))-1)) (IntKind.wrap .u64<|at' v<|(v.length:Int)-1))) O (dP O O<|a9 (v:=.int .u64 (Int.tmod (bits .or .u64 (IntKind.wrap .u64<|(IntKind.wrap .u64<|at' u1<|j1+(v.length:Int))*2^(Int.toNat 32)) (IntKind.wrap .u64<|at' u1<|(j1+(v.length:Int))-1)) (IntKind.wrap .u64<|at' v<|(v.length:Int)-1))) O (dN ?_))))))
  refine jgZ (γ:=Nat×Nat) h (λy=>ba [(4,.sl 1 rg 81 y.2.2 0 q.length),(9,iZ n),(10,ak v),(11,.sl 1 rg 61 y.2.1 0 u1.length),(12,.int .u64 (IntKind.wrap .u64<|at' v<|(v.length:Int)-1)),(13,.int .u64 (IntKind.wrap .u64<|at' v<|(v.length:Int)-2)),(14,iZ j1),(16,.int .u64 y.1)]) (λy=>stL S rg [(61,.arr 1 (List.map (AV.int .u32) u1),y.2.1),(81,.arr 1 (List.map (AV.int .u32) q),y.2.2)]) (λy h=>?_) (λ_ h=>?_)
  ·obtain⟨guess,⟨g5,g6⟩⟩:=y
   refine jgZ (γ:=Nat×Nat) h (λy=>ba [(4,.sl 1 rg 81 y.2.2 0 q.length),(9,iZ n),(10,ak v),(11,.sl 1 rg 61 y.2.1 0 y.1.2.length),(12,.int .u64 (IntKind.wrap .u64<|at' v<|(v.length:Int)-1)),(13,.int .u64 (IntKind.wrap .u64<|at' v<|(v.length:Int)-2)),(14,iZ j1),(16,.int .u64 y.1.1)]) (λy=>stL S rg [(61,.arr 1 (List.map (AV.int .u32) y.1.2),y.2.1),(81,.arr 1 (List.map (AV.int .u32) q),y.2.2)]) (λy h=>?_) (λ_ h=>?_)
   ·obtain⟨⟨guess1,u2⟩,⟨g7,g8⟩⟩:=y
    exact rZ<|mvZ (.sl 1 rg 81 g8 0 q.length) O<|mvZ (iZ j1) O<|mvZ (.int .u64 guess1) O<|ac<|bL cL cB O<|tkZ h (λhi2 h=>ac<|bm bi bn dZ O O hi2<|ac<|bR (aZ 81 O) bn dZ (x':=(IntKind.wrap .u32 guess1)) (λ_=>O) O O (bH hi2 lzZ) O O aV<|nZ<|rZ<|mvZ (iZ j1) O<|tkZ h (λhg16 h=>ac<|bW O O hg16<|asZ (iZ<|j1-1) O<|nZ<|⟨(((j1-1),u2,(bu q j1<|IntKind.wrap .u32 guess1)),(g7,g8)),(canon (fc (VW.slen lzZ)<|aP<|fZ<|fZ<|fn)<|sc O<|sc O<|sn),h⟩))
   refine aj<|mvZ (.sl 1 rg 61 g5 0 u1.length) O<|mvZ (iZ j1) O<|mvZ (iZ j1) O<|mvZ (ak v) O<|ac<|aJ bi O<|tkZ h (λhg17 h=>ac<|aG O O hg17<|tkZ h (λhg18 h=>ac<|aG O O hg18<|tkZ h (λhsl h=>ac<|zf bi bn dZ O (l:=j1) (h:=((j1+(v.length:Int))+1)) O O hsl (mvZ (ak v) O<|mvZ (.int .u64 guess) O<|ac<|clZ O<|eX (wV<|aZ 61 O)<|sv h λu3 r5 h=>ck aV<|tkZ h (λhl h=>nZ<|cZ h O (λhb4 h=>?_) (λhb4 h=>?_))))))
   ·exact aj<|mvZ (.int .u64 guess) O<|ac<|p7 O O<|asZ (.int .u64<|IntKind.wrap .u64<|guess-1) O<|nZ<|rZ<|mvZ (.sl 1 rg 61 g5 0 u1.length) O<|mvZ (iZ j1) O<|mvZ (iZ j1) O<|mvZ (ak v) O<|ac<|aJ bi O<|tkZ h (λhg19 h=>ac<|aG O O hg19<|tkZ h (λhg20 h=>ac<|aG O O hg20<|tkZ h (λhsl1 h=>ac<|zf bi bn dZ O (l:=j1) (h:=((j1+(v.length:Int))+1)) O O hsl1 (mvZ (ak v) O<|ac<|clZ O<|eX (wV<|aZ 61 O)<|sx h λu4 h=>ck aV<|tkZ h (λhl1 h=>nZ<|⟨(((IntKind.wrap .u64<|guess-1),u4),(g5,g6)),(canon (fZ<|fZ<|fZ<|fc (VW.slen lzZ)<|aP<|fn)<|sc O<|sc O<|sn),h⟩)))))
   exact kZ<|⟨((guess,u3),(g5,g6)),(canon (fZ<|fZ<|fZ<|fc (VW.slen lzZ)<|aP<|fn)<|sc O<|sc O<|sn),h⟩
  refine bZ<|lgZ h (g3,g4) (λy=>ba [(4,.sl 1 rg 81 y.2.2 0 q.length),(9,iZ n),(10,ak v),(11,.sl 1 rg 61 y.2.1 0 u1.length),(12,.int .u64 (IntKind.wrap .u64<|at' v<|(v.length:Int)-1)),(13,.int .u64 (IntKind.wrap .u64<|at' v<|(v.length:Int)-2)),(14,iZ j1),(16,.int .u64 y.1.1),(17,.int .u64 y.1.2)]) (λy=>stL S rg [(61,.arr 1 (List.map (AV.int .u32) u1),y.2.1),(81,.arr 1 (List.map (AV.int .u32) q),y.2.2)]) (canon (aP<|aP<|fZ<|fn)<|sc O<|sc O<|sn) (λy _ h=>?_)
  obtain⟨⟨guess2,rest⟩,⟨g9,g10⟩⟩:=y
  refine jgZ (γ:=Nat×Nat) h (λy=>ba [(4,.sl 1 rg 81 y.2.2 0 q.length),(9,iZ n),(10,ak v),(11,.sl 1 rg 61 y.2.1 0 u1.length),(12,.int .u64 (IntKind.wrap .u64<|at' v<|(v.length:Int)-1)),(13,.int .u64 (IntKind.wrap .u64<|at' v<|(v.length:Int)-2)),(14,iZ j1),(16,.int .u64 guess2),(17,.int .u64 rest)]) (λy=>stL S rg [(61,.arr 1 (List.map (AV.int .u32) u1),y.2.1),(81,.arr 1 (List.map (AV.int .u32) q),y.2.2)]) (λy h=>?_) (λ_ h=>?_)
  ·obtain⟨_,⟨g11,g12⟩⟩:=y
   refine bZ<|aj<|mvZ (.int .u64 guess2) O<|ac<|p7 O O<|asZ (.int .u64<|IntKind.wrap .u64<|guess2-1) O<|aU<|mvZ (.int .u64 rest) O<|mvZ (.int .u64<|IntKind.wrap .u64<|at' v<|(v.length:Int)-1) O<|ac<|nq O O<|stZ h (λrest1 hs2 h=>wZ rg<|a9 (v:=.int .u64 rest1) (by subst hs2;rfl)<|aU<|mvZ (.int .u64 rest1) O<|ac<|fB O O<|nZ<|cZ h O (λhb5 h=>?_) (λhb5 h=>?_))
   ·exact xnZ O<|zI<|⟨((IntKind.wrap .u64<|guess2-1),(g11,g12)),(canon (aP<|aP<|fn)<|sc O<|sc O<|sn),h⟩
   exact kZ<|⟨(((IntKind.wrap .u64<|guess2-1),rest1),(g11,g12)),(canon (aP<|aP<|fZ<|fn)<|sc O<|sc O<|sn),h⟩
  refine aj<|mvZ (.int .u64 guess2) O<|ac<|fB O O<|mvZ (.bool<|decide<|4294967296<=guess2) O<|gfZ h O O (λhb6 h=>?_) (λhb6 h=>?_)
  ·refine mvZ (.int .u64 guess2) O<|gTZ O O hb6<|mvZ (.int .u64<|IntKind.wrap .u64<|at' v<|(v.length:Int)-2) O<|gTZ O O hb6<|ac<|zg O O<|gTZ O O hb6<|mvZ (.int .u64 rest) O<|gTZ O O hb6<|ac<|oP O O dZ<|gTZ O O hb6<|mvZ (.sl 1 rg 61 g9 0 u1.length) O<|gTZ O O hb6<|mvZ (iZ j1) O<|gTZ O O hb6<|mvZ (ak v) O<|gTZ O O hb6<|ac<|aJ bi O<|gTZ O O hb6<|tkZ h (λhg21 h=>ac<|aG O O hg21<|gTZ O O hb6<|tkZ h (λhg22 h=>ac<|bW O O hg22<|gTZ O O hb6<|tkZ h (λhi3 h=>ac<|bm bi bn dZ O O hi3<|gTZ O O hb6<|ac<|cc (aZ 61 O) bn dv O (bH hi3 lzZ) O (v:=.int .u32 (at' u1<|(j1+(v.length:Int))-2)) O (gTZ O O hb6<|ac<|bL cB cL O<|gTZ O O hb6<|ac<|wD O O<|gTZ O O hb6<|ac<|c9 O O<|ac<|bd O hb6 (v:=.bool (decide<|(bits .or .u64 (IntKind.wrap .u64<|rest*2^(Int.toNat 32))<|IntKind.wrap .u64<|at' u1<|(j1+(v.length:Int))-2)<(IntKind.wrap .u64<|guess2*(IntKind.wrap .u64<|at' v<|(v.length:Int)-2)))) O (nZ<|cZ h O (λhb7 h=>?_) (λhb7 h=>?_))))))
   ·exact kZ<|⟨((),(g9,g10)),(canon (aP<|aP<|fZ<|fn)<|sc O<|sc O<|sn),h⟩
   exact xsZ<|⟨(guess2,(g9,g10)),(canon (aP<|aP<|fn)<|sc O<|sc O<|sn),h⟩
  exact gFZ O O hb6 O<|gFZ O O hb6 O<|gFZ O O hb6 O<|gFZ O O hb6 O<|gFZ O O hb6 O<|gFZ O O hb6 O<|gFZ O O hb6 O<|gFZ O O hb6 O<|gFZ O O hb6 O<|gFZ O O hb6 O<|gFZ O O hb6 O<|gFZ O O hb6 O<|gFZ O O hb6 O<|gFZ O O hb6 O<|gFZ O O hb6 O<|ac<|be O hb6 (v:=.bool true) O<|nZ<|cTZ O O<|kZ<|⟨((),(g9,g10)),(canon (aP<|aP<|fZ<|fn)<|sc O<|sc O<|sn),h⟩
 exact xsZ<|aj<|mvZ (.sl 1 rg 81 g4 0 q.length) O<|fw (bw (k:=81) (xs:=List.map (AV.int .u32) q) O (es:=[(9,iZ n),(11,.sl 1 rg 61 g3 0 u1.length),(169,ak q)]) (fZ<|fc (gh O)<|fc (bk O)<|fn) (m:=[(61,.arr 1 (List.map (AV.int .u32) u1),g3)]) (sc O<|sn)) (ac<|clZ O<|bX h λq1 h=>mvZ (.sl 1 rg 61 g3 0 u1.length) O<|mvZ (iZ n) O<|fw (bw (k:=61) (xs:=List.map (AV.int .u32) u1) O (es:=[(170,ak q1),(171,ak u1),(172,iZ n)]) (fZ<|fc (bk O)<|fZ<|fn) (m:=[]) (sn)) (ac<|clZ O<|rk h λr6 h=>ac<|clZ O<|bX h λr7 h=>asZ (ak q1) O<|asZ (ak r7) O<|asZ .niface O<|aE<|aC (v:=ak q1) O<|aC (v:=ak r7) O<|aC (v:=.niface) O<|aK<|aO hrg (VW.tupL<|vZ<|vZ<|vZ<|vn)<|hQ _ _ _ h))
theorem oe {a:List Int} {b:List Int} {Q:List Int->Prop} (h:j6 a b Q) (hQ:∀r1,Q r1->R (ak r1) S) :
  Ctr prog 242 [ak a,ak b] S R:=by
 refine aI func242 rfl ntmps242 results242 krZ (λrg hrg=>?_)
 refine aj<|asZ .nil O<|aU<|mvZ (ak a) O<|ac<|clZ O<|bX h λa1 h=>mvZ (ak b) O<|ac<|clZ O<|bX h λb1 h=>asZ (ak a1) O<|asZ (ak b1) O<|nZ<|qZ<|bZ<|lpZ h (λy=>ba [(0,ak y.1),(1,ak y.2)]) (λy=>stL S rg []) (canon (fZ<|fZ<|fn)<|sn) (λy _ h=>?_)
 obtain⟨a2,b2⟩:=y
 refine qZ<|aj<|mvZ (ak b2) O<|ac<|aJ bi O<|ac<|c9 O O<|nZ<|cZ h O (λhb h=>?_) (λhb h=>?_)
 ·exact kZ<|bZ<|aj<|mvZ (ak a2) O<|mvZ (ak b2) O<|ac<|clZ O<|kM h λr r1 r2 h=>mvZ (.tuple [ak r,ak r1,aY 82 r2]) O<|ac<|ar (v:=ak r) O O O<|ac<|ar (v:=ak r1) O O O<|ac<|ar (v:=aY 82 r2) O O O<|asZ (ak r) O<|asZ (ak r1) O<|asZ (aY 82 r2) O<|nZ<|rZ<|mvZ (ak b2) O<|mvZ (ak r1) O<|asZ (ak b2) O<|asZ (ak r1) O<|nZ<|⟨(b2,r1),(canon (fZ<|fZ<|fn)<|sn),h⟩
 exact xsZ<|aj<|mvZ (ak a2) O<|asZ (ak a2) O<|aE<|gv1 hrg<|hQ _ h
theorem eF {a:List Int} {b:List Int} {Q:List Int->Prop} (h:dj a b Q) (hQ:∀r1,Q r1->R (ak r1) S) :
  Ctr prog 164 [ak a,ak b] S R:=by
 refine aI func164 rfl ntmps164 results164 krZ (λrg hrg=>?_)
 refine aj<|asZ .nil O<|aU<|mvZ (ak a) O<|ac<|aJ bi O<|mvZ (ak b) O<|ac<|aJ bi O<|tkZ h (λhg h=>ac<|aG O O hg<|tkZ h (λhg1 h=>wZ rg<|gb bi fU dJ (enc:=AV.int .u32) (z':=0) cH (kk:=1) O O O hg1 (λg1=>asZ (.sl 1 rg 16 g1 0<|Int.toNat<|(a.length:Int)+(b.length:Int)) O (nZ<|qZ<|aj<|mvZ (ak a) O<|ac<|aJ bi O<|mvZ (iZ 0) O<|nZ<|bZ<|lpZ h (λy=>ba [(1,ak b),(5,.sl 1 rg 16 g1 0 y.2.length),(17,ak a),(18,iZ (a.length:Int)),(19,iZ y.1)]) (λy=>stL S rg [(16,.arr 1 (List.map (AV.int .u32) y.2),g1)]) (canon (fZ<|fc (VW.slen lzZ)<|fZ<|fZ<|fZ<|fn)<|sc O<|sn) (λy _ h=>?_)))))
 obtain⟨x,out⟩:=y
 refine aj<|ac<|bj O O<|nZ<|qZ<|cZ h O (λhb h=>?_) (λhb h=>?_)
 ·refine kZ<|qZ<|bZ<|aj<|mvZ (iZ x) O<|tkZ h (λhg2 h=>ac<|aQ bi bn dZ (λ_=>O) O O hg2<|ac<|aL bn dv O O (v:=.int .u32 (at' a x)) O<|asZ (iZ x) O<|asZ (.int .u32<|at' a x) O<|aU<|asZ (.int .u64 0) O<|nZ<|qZ<|aj<|mvZ (ak b) O<|ac<|aJ bi O<|mvZ (iZ 0) O<|nZ<|bZ<|lpZ h (λy=>ba [(1,ak b),(5,.sl 1 rg 16 g1 0 y.2.2.length),(6,iZ x),(7,.int .u32 (at' a x)),(8,.int .u64 y.1),(17,ak a),(18,iZ (a.length:Int)),(19,iZ x),(24,ak b),(25,iZ (b.length:Int)),(26,iZ y.2.1)]) (λy=>stL S rg [(16,.arr 1 (List.map (AV.int .u32) y.2.2),g1)]) (canon (aP<|aP<|fZ<|fZ<|fZ<|fn)<|sc O<|sn) (λy _ h=>?_))
  obtain⟨carry,x1,out1⟩:=y
  refine aj<|ac<|bj O O<|nZ<|qZ<|cZ h O (λhb1 h=>?_) (λhb1 h=>?_)
  ·refine kZ<|qZ<|bZ<|aj<|mvZ (iZ x1) O<|tkZ h (λhg3 h=>ac<|aQ bi bn dZ (λ_=>O) O O hg3<|ac<|aL bn dv O O (v:=.int .u32 (at' b x1)) O<|asZ (iZ x1) O<|asZ (.int .u32<|at' b x1) O<|aU<|mvZ (.int .u64 carry) O<|mvZ (.int .u32<|at' a x) O<|ac<|bL cB cL O<|mvZ (.int .u32<|at' b x1) O<|ac<|bL cB cL O<|ac<|zg O O<|mvZ (.sl 1 rg 16 g1 0 out1.length) O<|mvZ (iZ x) O<|mvZ (iZ x1) O<|tkZ h (λhg4 h=>ac<|aG O O hg4<|tkZ h (λhi h=>ac<|bm bi bn dZ O O hi<|ac<|cc (aZ 16 O) bn dv O (bH hi lzZ) O (v:=.int .u32 (at' out1<|x+x1)) O (ac<|bL cB cL O<|ac<|nq O O<|ac<|nq O O<|stZ h (λcarry1 hs h=>wZ rg<|a9 (v:=.int .u64 carry1) (by subst hs;rfl)<|aU<|mvZ (.sl 1 rg 16 g1 0 out1.length) O<|mvZ (iZ x) O<|mvZ (iZ x1) O<|tkZ h (λhg5 h=>ac<|aG O O hg5<|mvZ (.int .u64 carry1) O<|ac<|bL cL cB O<|tkZ h (λhi1 h=>ac<|bm bi bn dZ O O hi1<|ac<|bR (aZ 16 O) bn dZ (x':=(IntKind.wrap .u32 carry1)) (λ_=>O) O O (bH hi1 lzZ) O O aV<|nZ<|rZ<|mvZ (.int .u64 carry1) O<|ac<|i8 O O dZ<|asZ (.int .u64<|carry1 / 2^(Int.toNat 32)) O<|nZ<|rZ<|tkZ h (λhg6 h=>ac<|aG O O hg6<|mvZ (iZ<|x1+1) O<|nZ ?_))))))))
   exact⟨((carry1 / 2^(Int.toNat 32)),(x1+1),(bu out1 (x+x1)<|IntKind.wrap .u32 carry1)),(canon (fZ<|fc (VW.slen lzZ)<|aP<|aP<|fZ<|fn)<|sc O<|sn),h⟩
  exact xsZ<|rZ<|mvZ (.sl 1 rg 16 g1 0 out1.length) O<|mvZ (iZ x) O<|mvZ (ak b) O<|ac<|aJ bi O<|tkZ h (λhg7 h=>ac<|aG O O hg7<|mvZ (.int .u64 carry) O<|ac<|bL cL cB O<|tkZ h (λhi2 h=>ac<|bm bi bn dZ O O hi2<|ac<|bR (aZ 16 O) bn dZ (x':=(IntKind.wrap .u32 carry)) (λ_=>O) O O (bH hi2 lzZ) O O aV<|nZ<|rZ<|tkZ h (λhg8 h=>ac<|aG O O hg8<|mvZ (iZ<|x+1) O<|nZ<|⟨((x+1),(bu out1 (x+(b.length:Int))<|IntKind.wrap .u32 carry)),(canon (fZ<|fc (VW.slen lzZ)<|fZ<|fZ<|fZ<|fn)<|sc O<|sn),h⟩)))
 exact xsZ<|aj<|mvZ (.sl 1 rg 16 g1 0 out.length) O<|fw (bw (k:=16) (xs:=List.map (AV.int .u32) out) O (es:=[(65,ak out)]) (fc (bk O)<|fn) (m:=[])<|sn)<|ac<|clZ O<|bX h λr h=>asZ (ak r) O<|aE<|gv1 hrg<|hQ _ h
theorem sy {a:List Int} {Q:Int->Prop} (h:l_ a Q) (hQ:∀r1,Q r1->R (iZ r1) S) :
  Ctr prog 241 [ak a] S R:=by
 refine aI func241 rfl ntmps241 results241 krZ (λrg hrg=>?_)
 refine aj<|asZ (iZ 0) O<|nZ<|qZ<|aj<|mvZ (ak a) O<|ac<|aJ bi O<|tkZ h (λhg h=>ac<|bW O O hg<|asZ (iZ<|(a.length:Int)-1) O<|nZ<|bZ<|lpZ h (λy=>ba [(0,ak a),(3,iZ y)]) (λy=>stL S rg []) (canon (fZ<|fZ<|fn)<|sn) (λi _ h=>qZ<|aj<|mvZ (iZ i) O<|ac<|fB O O<|nZ<|cZ h O (λhb h=>?_) (λhb h=>?_)))
 ·refine kZ<|qZ<|bZ<|aj<|mvZ (ak a) O<|mvZ (iZ i) O<|tkZ h (λhg1 h=>ac<|aQ bi bn dZ (λ_=>O) O O hg1<|ac<|aL bn dv O O (v:=.int .u32 (at' a i)) O<|ac<|c8 O O<|nZ<|cZ h O (λhb1 h=>?_) (λhb1 h=>?_))
  ·exact aj<|mvZ (iZ i) O<|tkZ h (λhg2 h=>ac<|m9 O O hg2<|mvZ (ak a) O<|mvZ (iZ i) O<|tkZ h (λhg3 h=>ac<|aQ bi bn dZ (λ_=>O) O O hg3<|ac<|aL bn dv O O (v:=.int .u32 (at' a i)) O<|ac<|clZ O<|lh h λr h=>tkZ h (λhg4 h=>ac<|aG O O hg4<|asZ (iZ<|(32*i)+r) O<|aE<|gv1 hrg<|hQ _ h)))
  exact kZ<|rZ<|mvZ (iZ i) O<|tkZ h (λhg5 h=>ac<|bW O O hg5<|asZ (iZ<|i-1) O<|nZ<|⟨(i-1),(canon (fZ<|fZ<|fn)<|sn),h⟩)
 exact xsZ<|aj<|asZ (iZ 0) O<|aE<|gv1 hrg<|hQ _ h
theorem tP {a:List Int} {b:List Int} {Q:List Int->Prop} (h:j7 a b Q) (hQ:∀r1,Q r1->R (ak r1) S) :
  Ctr prog 166 [ak a,ak b] S R:=by
 refine aI func166 rfl ntmps166 results166 krZ (λrg hrg=>?_)
 refine aj<|asZ .nil O<|aU<|mvZ (ak a) O<|ac<|aJ bi O<|mvZ (ak b) O<|ac<|aJ bi O<|ac<|zh O O<|tkZ h (λhg h=>ac<|aG O O hg<|tkZ h (λhg1 h=>wZ rg<|gb bi fU dJ (enc:=AV.int .u32) (z':=0) cH (kk:=1) O O O hg1 (λg1=>asZ (.sl 1 rg 14 g1 0<|Int.toNat<|(max (a.length:Int) (b.length:Int))+1) O (aU<|asZ (.int .u64 0) O<|nZ<|qZ<|aj<|mvZ (.sl 1 rg 14 g1 0<|Int.toNat<|(max (a.length:Int) (b.length:Int))+1) O (ac<|gW bi O<|mvZ (iZ 0) O<|nZ<|bZ<|lpZ h (λy=>ba [(0,ak a),(1,ak b),(5,.sl 1 rg 14 g1 0 y.2.2.length),(6,.int .u64 y.1),(16,iZ ((Int.toNat<|(max (a.length:Int) (b.length:Int))+1):Int)),(17,iZ y.2.1)]) (λy=>stL S rg [(14,.arr 1 (List.map (AV.int .u32) y.2.2),g1)]) (canon (fZ<|fZ<|fc (VW.slen lzZ)<|fZ<|fZ<|fZ<|fn)<|sc O<|sn) (λy _ h=>?_))))))
 obtain⟨carry,x,out⟩:=y
 refine aj<|ac<|bj O O<|nZ<|qZ<|cZ h O (λhb h=>?_) (λhb h=>?_)
 ·exact kZ<|qZ<|bZ<|aj<|mvZ (iZ x) O<|asZ (iZ x) O<|aU<|mvZ (.int .u64 carry) O<|mvZ (ak a) O<|mvZ (iZ x) O<|ac<|clZ O<|c_ h λr h=>mvZ (ak b) O<|mvZ (iZ x) O<|ac<|clZ O<|c_ h λr1 h=>ac<|nq O O<|ac<|nq O O<|stZ h (λcarry1 hs h=>wZ rg<|a9 (v:=.int .u64 carry1) (by subst hs;rfl)<|aU<|mvZ (.sl 1 rg 14 g1 0 out.length) O<|mvZ (iZ x) O<|mvZ (.int .u64 carry1) O<|ac<|bL cL cB O<|tkZ h (λhi h=>ac<|bm bi bn dZ O O hi<|ac<|bR (aZ 14 O) bn dZ (x':=(IntKind.wrap .u32 carry1)) (λ_=>O) O O (bH hi lzZ) O O aV<|nZ<|rZ<|mvZ (.int .u64 carry1) O<|ac<|i8 O O dZ<|asZ (.int .u64<|carry1 / 2^(Int.toNat 32)) O<|nZ<|rZ<|tkZ h (λhg2 h=>ac<|aG O O hg2<|mvZ (iZ<|x+1) O<|nZ<|⟨((carry1 / 2^(Int.toNat 32)),(x+1),(bu out x<|IntKind.wrap .u32 carry1)),(canon (fZ<|fZ<|fc (VW.slen lzZ)<|fZ<|fZ<|fZ<|fn)<|sc O<|sn),h⟩)))
 exact xsZ<|aj<|mvZ (.sl 1 rg 14 g1 0 out.length) O<|fw (bw (k:=14) (xs:=List.map (AV.int .u32) out) O (es:=[(37,ak out)]) (fc (bk O)<|fn) (m:=[])<|sn)<|ac<|clZ O<|bX h λr2 h=>asZ (ak r2) O<|aE<|gv1 hrg<|hQ _ h
theorem od {a:List Int} {b:List Int} {Q:List Int->Option Int->Prop} (h:j5 a b Q) (hQ:∀r1 r2,Q r1 r2->R (.tuple [ak r1,aY 82 r2]) S) :
  Ctr prog 168 [ak a,ak b] S R:=by
 refine aI func168 rfl ntmps168 results168 krZ (λrg hrg=>?_)
 refine aj<|asZ .nil O<|asZ .niface O<|nZ<|qZ<|aj<|mvZ (ak a) O<|mvZ (ak b) O<|ac<|clZ O<|gy h λr h=>ac<|bj O O<|nZ<|cZ h O (λhb h=>?_) (λhb h=>?_)
 ·exact aj<|ac<|cm (by rw[gQ];trivial) (v:=iZ 3) O<|asZ .nil O<|asZ (.iface 82<|iZ 3) O<|aE<|aC (v:=.nil) O<|aC (v:=.iface 82 (iZ 3)) O<|aK<|aO hrg (VW.tupL<|vl' (VW.nilL)<|vZ<|vn)<|hQ _ _ h
 refine kZ<|aj<|mvZ (ak a) O<|ac<|aJ bi O<|tkZ h (λhg h=>wZ rg<|gb bi fU dJ (enc:=AV.int .u32) (z':=0) cH (kk:=1) O O O hg (λg1=>asZ (.sl 1 rg 17 g1 0<|Int.toNat (a.length:Int)) O<|aU<|asZ (.int .u64 0) O<|nZ<|qZ<|aj<|mvZ (.sl 1 rg 17 g1 0<|Int.toNat (a.length:Int)) O<|ac<|gW bi O<|mvZ (iZ 0) O<|nZ<|bZ<|lpZ h (λy=>ba [(0,ak a),(1,ak b),(6,.sl 1 rg 17 g1 0 y.2.2.length),(7,.int .u64 y.1),(19,iZ ((Int.toNat (a.length:Int)):Int)),(20,iZ y.2.1)]) (λy=>stL S rg [(17,.arr 1 (List.map (AV.int .u32) y.2.2),g1)]) (canon (fZ<|fZ<|fc (VW.slen lzZ)<|fZ<|fZ<|fZ<|fn)<|sc O<|sn) (λy _ h=>?_)))
 obtain⟨borrow,x,out⟩:=y
 refine aj<|ac<|bj O O<|nZ<|qZ<|cZ h O (λhb1 h=>?_) (λhb1 h=>?_)
 ·exact kZ<|qZ<|bZ<|aj<|mvZ (iZ x) O<|asZ (iZ x) O<|aU<|mvZ (ak a) O<|mvZ (iZ x) O<|ac<|clZ O<|c_ h λr1 h=>mvZ (ak b) O<|mvZ (iZ x) O<|ac<|clZ O<|c_ h λr2 h=>ac<|p7 O O<|mvZ (.int .u64 borrow) O<|ac<|p7 O O<|stZ h (λd hs h=>wZ rg<|a9 (v:=.int .u64 d) (by subst hs;rfl)<|aU<|mvZ (.sl 1 rg 17 g1 0 out.length) O<|mvZ (iZ x) O<|mvZ (.int .u64 d) O<|ac<|bL cL cB O<|tkZ h (λhi h=>ac<|bm bi bn dZ O O hi<|ac<|bR (aZ 17 O) bn dZ (x':=(IntKind.wrap .u32 d)) (λ_=>O) O O (bH hi lzZ) O O aV<|nZ<|rZ<|mvZ (.int .u64 d) O<|ac<|i8 O O dZ<|asZ (.int .u64<|d / 2^(Int.toNat 63)) O<|nZ<|rZ<|tkZ h (λhg1 h=>ac<|aG O O hg1<|mvZ (iZ<|x+1) O<|nZ<|⟨((d / 2^(Int.toNat 63)),(x+1),(bu out x<|IntKind.wrap .u32 d)),(canon (fZ<|fZ<|fc (VW.slen lzZ)<|fZ<|fZ<|fZ<|fn)<|sc O<|sn),h⟩)))
 exact xsZ<|aj<|mvZ (.sl 1 rg 17 g1 0 out.length) O<|fw (bw (k:=17) (xs:=List.map (AV.int .u32) out) O (es:=[(40,ak out)]) (fc (bk O)<|fn) (m:=[])<|sn)<|ac<|clZ O<|bX h λr3 h=>asZ (ak r3) O<|asZ .niface O<|aE<|aC (v:=ak r3) O<|aC (v:=.niface) O<|aK<|aO hrg (VW.tupL<|vZ<|vZ<|vn)<|hQ _ _ h
end Go.Proofs.YtnjgdkfhgmebjaaGreat
namespace Go.Proofs.YtnjgdkfhgmebjaaGreat
open Go.Gg Tryz
set_option maxRecDepth 100000
variable {S:St} {R:AV->St->Prop}
theorem lX {a:List Int} {Q:Int->Prop} (h:jp a Q) (hQ:∀r1,Q r1->R (iZ r1) S) :
  Ctr prog 189 [ak a] S R:=by
 refine aI func189 rfl ntmps189 results189 krZ (λrg hrg=>?_)
 refine aj<|asZ (iZ 0) O<|aU<|asZ (iZ 0) O<|nZ<|qZ<|aj<|mvZ (ak a) O<|ac<|aJ bi O<|mvZ (iZ 0) O<|nZ<|bZ<|lpZ h (λy=>ba [(3,iZ y.1),(7,ak a),(8,iZ (a.length:Int)),(9,iZ y.2)]) (λy=>stL S rg []) (canon (aP<|fn)<|sn) (λy _ h=>?_)
 obtain⟨n,x⟩:=y
 refine aj<|ac<|bj O O<|nZ<|qZ<|cZ h O (λhb h=>?_) (λhb h=>?_)
 ·refine kZ<|qZ<|bZ<|aj<|mvZ (iZ x) O<|tkZ h (λhg h=>ac<|aQ bi bn dZ (λ_=>O) O O hg<|ac<|aL bn dv O O (v:=.int .u32 (at' a x)) O<|asZ (iZ x) O<|asZ (.int .u32<|at' a x) O<|aU<|mvZ (iZ 0) O<|nZ<|bZ<|lpZ h (λy=>ba [(3,iZ y.1),(4,iZ x),(5,.int .u32 (at' a x)),(7,ak a),(8,iZ (a.length:Int)),(9,iZ x),(14,iZ y.2)]) (λy=>stL S rg []) (canon (aP<|fZ<|fZ<|fZ<|fn)<|sn) (λy _ h=>?_))
  obtain⟨n1,x1⟩:=y
  refine aj<|ac<|bj O O<|nZ<|qZ<|cZ h O (λhb1 h=>?_) (λhb1 h=>?_)
  ·refine kZ<|qZ<|bZ<|aj<|mvZ (iZ x1) O<|asZ (iZ x1) O<|aU<|mvZ (.int .u32<|at' a x) O<|mvZ (iZ x1) O<|tkZ h (λhg1 h=>ac<|i8 O O hg1<|ac<|DD O O<|ac<|bK O O<|nZ<|cZ h O (λhb2 h=>?_) (λhb2 h=>?_))
   ·exact rZ<|mvZ (iZ x) O<|tkZ h (λhg2 h=>ac<|m9 O O hg2<|mvZ (iZ x1) O<|tkZ h (λhg3 h=>ac<|aG O O hg3<|tkZ h (λhg4 h=>ac<|aG O O hg4<|asZ (iZ<|((32*x)+x1)+1) O (nZ<|rZ<|tkZ h (λhg5 h=>ac<|aG O O hg5<|mvZ (iZ<|x1+1) O<|nZ<|⟨((((32*x)+x1)+1),(x1+1)),(canon (aP<|fZ<|fZ<|fZ<|fn)<|sn),h⟩)))))
   exact kZ<|rZ<|tkZ h (λhg6 h=>ac<|aG O O hg6<|mvZ (iZ<|x1+1) O<|nZ<|⟨(n1,(x1+1)),(canon (aP<|fZ<|fZ<|fZ<|fn)<|sn),h⟩)
  exact xsZ<|rZ<|tkZ h (λhg7 h=>ac<|aG O O hg7<|mvZ (iZ<|x+1) O<|nZ<|⟨(n1,(x+1)),(canon (aP<|fn)<|sn),h⟩)
 exact xsZ<|aj<|mvZ (iZ n) O<|asZ (iZ n) O<|aE<|gv1 hrg<|hQ _ h
theorem cV {a:List Int} {Q:List Int->Prop} (h:c5 a Q) (hQ:∀r1,Q r1->R (ak r1) S) :
  Ctr prog 188 [ak a] S R:=by
 refine aI func188 rfl ntmps188 results188 krZ (λrg hrg=>?_)
 refine aj<|asZ .nil O<|aU<|mvZ (ak a) O<|ac<|aJ bi O<|asZ (iZ (a.length:Int)) O<|nZ<|jnZ h (λy=>ba [(0,ak a),(3,iZ y)]) (λy=>stL S rg []) (λn h=>?_) (λ_ h=>?_)
 ·exact aj<|wZ rg<|bq bi dJ cH (es:=[]) O (kk:=1) O O O O O O (λg1=>mvZ (ak a) O<|mvZ (iZ n) O<|tkZ h (λhg h=>ac<|fO bi bn dZ (λ_=>O) O (l:=0) (h:=n) O O hg<|tkZ h (λhg1 h=>wZ rg<|cS bi fU dJ cH (es:=([]:List Int)) (xs:=(bf a 0 n)) (enc:=AV.int .u32) (aZ 18 O) lzZ (O) (kk:=1) O O (λ_=>O) (λ_=>O) hg1 O (λ_=>aV) (λg2=>asZ (.sl 1 rg 18 g2 0<|(([]:List Int)++(bf a 0 n)).length) O (aE<|aC (v:=.sl 1 rg 18 g2 0 ((([]:List Int)++(bf a 0 n)).length)) O (aK<|br (k:=18) (xs:=List.map (AV.int .u32) (([]:List Int)++(bf a 0 n))) O (v':=ak (([]:List Int)++(bf a 0 n))) (bk O) (goZ hrg<|hQ _ h)))))))
 refine bZ<|lpZ h (λy=>ba [(0,ak a),(3,iZ y)]) (λy=>stL S rg []) (canon (fZ<|fZ<|fn)<|sn) (λn1 _ h=>qZ<|aj<|mvZ (iZ n1) O<|ac<|c9 O O<|mvZ (.bool<|decide<|0<n1) O<|gtZ h O O (λhb h=>?_) (λhb h=>?_))
 ·refine mvZ (ak a) O<|gTZ O O hb<|mvZ (iZ n1) O<|gTZ O O hb<|tkZ h (λhg2 h=>ac<|bW O O hg2<|gTZ O O hb<|tkZ h (λhg3 h=>ac<|aQ bi bn dZ (λ_=>O) O O hg3<|gTZ O O hb<|ac<|aL bn dv O O (v:=.int .u32 (at' a<|n1-1)) O (gTZ O O hb<|ac<|bK O O<|ac<|be O hb (v:=.bool ((at' a<|n1-1) == 0)) O (nZ<|cZ h O (λhb1 h=>?_) (λhb1 h=>?_)))))
  ·exact kZ<|bZ<|rZ<|mvZ (iZ n1) O<|tkZ h (λhg4 h=>ac<|bW O O hg4<|asZ (iZ<|n1-1) O<|nZ<|⟨(n1-1),(canon (fZ<|fZ<|fn)<|sn),h⟩)
  exact xsZ<|⟨n1,(canon (fZ<|fZ<|fn)<|sn),h⟩
 exact gFZ O O hb O<|gFZ O O hb O<|gFZ O O hb O<|gFZ O O hb O<|gFZ O O hb O<|ac<|bd O hb (v:=.bool false) O<|nZ<|cFZ O O<|xsZ<|⟨n1,(canon (fZ<|fZ<|fn)<|sn),h⟩
theorem cg {a:List Int} {i:Int} {Q:Int->Prop} (h:cp a i Q) (hQ:∀r1,Q r1->R (AV.int .u64 r1) S) :
  Ctr prog 187 [ak a,iZ i] S R:=by
 refine aI func187 rfl ntmps187 results187 krZ (λrg hrg=>?_)
 refine aj<|asZ (.int .u64 0) O<|nZ<|qZ<|aj<|mvZ (iZ i) O<|mvZ (ak a) O<|ac<|aJ bi O<|ac<|bj O O<|nZ<|cZ h O (λhb h=>?_) (λhb h=>?_)
 ·exact aj<|mvZ (ak a) O<|mvZ (iZ i) O<|tkZ h (λhg h=>ac<|aQ bi bn dZ (λ_=>O) O O hg<|ac<|aL bn dv O O (v:=.int .u32 (at' a i)) O<|ac<|bL cB cL O<|asZ (.int .u64<|IntKind.wrap .u64<|at' a i) O<|aE<|gv1 hrg<|hQ _ h)
 exact kZ<|aj<|asZ (.int .u64 0) O<|aE<|gv1 hrg<|hQ _ h
theorem eS {a:List Int} {b:List Int} {Q:List Int->Prop} (h:d7 a b Q) (hQ:∀r1,Q r1->R (ak r1) S) :
  Ctr prog 112 [ak a,ak b] S R:=by
 refine aI func112 rfl ntmps112 results112 krZ (λrg hrg=>?_)
 refine aj<|asZ .nil O<|aU<|mvZ (ak a) O<|ac<|aJ bi O<|mvZ (ak b) O<|ac<|aJ bi O<|tkZ h (λhg h=>ac<|aG O O hg<|tkZ h (λhg1 h=>ac<|aG O O hg1<|tkZ h (λhg2 h=>wZ rg<|gb bi fU dJ (enc:=AV.int .u32) (z':=0) cH (kk:=1) O O O hg2 (λg1=>asZ (.sl 1 rg 17 g1 0<|Int.toNat<|((a.length:Int)+(b.length:Int))+1) O (nZ<|qZ<|aj<|mvZ (ak a) O<|ac<|aJ bi O<|mvZ (iZ 0) O<|nZ<|bZ<|lpZ h (λy=>ba [(1,ak b),(5,.sl 1 rg 17 g1 0 y.2.length),(18,ak a),(19,iZ (a.length:Int)),(20,iZ y.1)]) (λy=>stL S rg [(17,.arr 1 (List.map (AV.int .u32) y.2),g1)]) (canon (fZ<|fc (VW.slen lzZ)<|fZ<|fZ<|fZ<|fn)<|sc O<|sn) (λy _ h=>?_))))))
 obtain⟨x,out⟩:=y
 refine aj<|ac<|bj O O<|nZ<|qZ<|cZ h O (λhb h=>?_) (λhb h=>?_)
 ·refine kZ<|qZ<|bZ<|aj<|mvZ (iZ x) O<|tkZ h (λhg3 h=>ac<|aQ bi bn dZ (λ_=>O) O O hg3<|ac<|aL bn dv O O (v:=.int .u32 (at' a x)) O<|asZ (iZ x) O<|asZ (.int .u32<|at' a x) O<|aU<|asZ (.int .u64 0) O<|aU<|mvZ (ak b) O<|ac<|aJ bi O<|tkZ h (λhg4 h=>ac<|aG O O hg4<|mvZ (iZ 0) O<|nZ<|bZ<|lpZ h (λy=>ba [(1,ak b),(5,.sl 1 rg 17 g1 0 y.2.2.length),(6,iZ x),(7,.int .u32 (at' a x)),(8,.int .u64 y.1),(18,ak a),(19,iZ (a.length:Int)),(20,iZ x),(27,iZ ((b.length:Int)+1)),(28,iZ y.2.1)]) (λy=>stL S rg [(17,.arr 1 (List.map (AV.int .u32) y.2.2),g1)]) (canon (aP<|aP<|fZ<|fZ<|fn)<|sc O<|sn) (λy _ h=>?_)))
  obtain⟨carry,x1,out1⟩:=y
  refine aj<|ac<|bj O O<|nZ<|qZ<|cZ h O (λhb1 h=>?_) (λhb1 h=>?_)
  ·refine kZ<|qZ<|bZ<|aj<|mvZ (iZ x1) O<|asZ (iZ x1) O<|nZ<|qZ ?_
   obtain⟨r,hc,h⟩:=h
   refine tkZ h (λhg5 h=>tkZ h (λhi h=>Vc.drawn' bA rg (fH [(4,pc (.int .u64 r))]) krZ<|dP O O<|aA (v:=.int .u32 (at' a x)) O<|dP O O<|bL cB cL O<|dP O O<|aA (v:=ak b) O<|dP O O<|aA (v:=iZ x1) O<|dC (vs:=[ak b,iZ x1]) O (vZ<|vZ<|vn) (λ_=>cg hc (λ_ hr=>⟨by rw[hr],rfl⟩)) O<|dP O O<|zg O O<|dP O O<|aA (v:=.sl 1 rg 17 g1 0 out1.length) O<|dP O O<|aA (v:=iZ x) O<|dP O O<|aA (v:=iZ x1) O<|dP O O<|aG O O hg5<|dP O O<|bm bi bn dZ O O hi<|dL (E:=([(rg,17)],[])) O O zSm (cfn) (cc (aZ 17 O) bn dv O (bH hi lzZ) O (v:=.int .u32 (at' out1<|x+x1)) O (dP O O<|bL cB cL O<|dP O O<|nq O O<|dP O O<|aA (v:=.int .u64 carry) O<|dP O O<|nq O O<|dP O O<|a9 (v:=.int .u64 (IntKind.wrap .u64<|(IntKind.wrap .u64<|(IntKind.wrap .u64<|(IntKind.wrap .u64<|at' a x)*r)+(IntKind.wrap .u64<|at' out1<|x+x1))+carry)) O (dN<|aj<|mvZ (.sl 1 rg 17 g1 0 out1.length) O<|mvZ (iZ x) O<|mvZ (iZ x1) O<|tkZ h (λhg6 h=>ac<|aG O O hg6<|mvZ (.int .u64<|IntKind.wrap .u64<|(IntKind.wrap .u64<|(IntKind.wrap .u64<|(IntKind.wrap .u64<|at' a x)*r)+(IntKind.wrap .u64<|at' out1<|x+x1))+carry) O (ac<|bL cL cB O<|tkZ h (λhi1 h=>ac<|bm bi bn dZ O O hi1 ?_))))))))
   exact ac<|bR (aZ 17 O) bn dZ (x':=(IntKind.wrap .u32<|IntKind.wrap .u64<|(IntKind.wrap .u64<|(IntKind.wrap .u64<|(IntKind.wrap .u64<|at' a x)*r)+(IntKind.wrap .u64<|at' out1<|x+x1))+carry)) (λ_=>O) O O (bH hi1 lzZ) O O aV<|nZ<|rZ<|mvZ (.int .u64<|IntKind.wrap .u64<|(IntKind.wrap .u64<|(IntKind.wrap .u64<|(IntKind.wrap .u64<|at' a x)*r)+(IntKind.wrap .u64<|at' out1<|x+x1))+carry) O (ac<|i8 O O dZ<|stZ h (λcarry1 hs h=>wZ rg<|a9 (v:=.int .u64 carry1) (by subst hs;rfl)<|nZ<|rZ<|tkZ h (λhg7 h=>ac<|aG O O hg7<|mvZ (iZ<|x1+1) O<|nZ<|⟨(carry1,(x1+1),(bu out1 (x+x1)<|IntKind.wrap .u32<|IntKind.wrap .u64<|(IntKind.wrap .u64<|(IntKind.wrap .u64<|(IntKind.wrap .u64<|at' a x)*r)+(IntKind.wrap .u64<|at' out1<|x+x1))+carry)),(canon (fZ<|fc (VW.slen lzZ)<|aP<|aP<|fn)<|sc O<|sn),h⟩)))
  exact xsZ<|rZ<|tkZ h (λhg8 h=>ac<|aG O O hg8<|mvZ (iZ<|x+1) O<|nZ<|⟨((x+1),out1),(canon (aP<|fZ<|fn)<|sc O<|sn),h⟩)
 exact xsZ<|aj<|mvZ (.sl 1 rg 17 g1 0 out.length) O<|fw (bw (k:=17) (xs:=List.map (AV.int .u32) out) O (es:=[(58,ak out)]) (fc (bk O)<|fn) (m:=[])<|sn)<|ac<|clZ O<|cV h λr1 h=>asZ (ak r1) O<|aE<|gv1 hrg<|hQ _ h
theorem mZ {a:List Int} {b:List Int} {Q:Int->Prop} (h:i6 a b Q) (hQ:∀r1,Q r1->R (iZ r1) S) :
  Ctr prog 115 [ak a,ak b] S R:=by
 refine aI func115 rfl ntmps115 results115 krZ (λrg hrg=>?_)
 refine aj<|asZ (iZ 0) O<|nZ<|qZ<|aj<|mvZ (ak a) O<|ac<|aJ bi O<|mvZ (ak b) O<|ac<|aJ bi O<|ac<|zh O O<|tkZ h (λhg h=>ac<|bW O O hg<|stZ h (λi hs h=>wZ rg<|a9 (v:=iZ i) (by subst hs;rfl)<|nZ<|bZ<|lpZ h (λy=>ba [(0,ak a),(1,ak b),(5,iZ y)]) (λy=>stL S rg []) (canon (fZ<|fZ<|fZ<|fn)<|sn) (λi1 _ h=>qZ<|aj<|mvZ (iZ i1) O<|ac<|fB O O<|nZ<|cZ h O (λhb h=>?_) (λhb h=>?_))))
 ·refine kZ<|qZ<|bZ<|qZ<|aj<|mvZ (ak a) O<|mvZ (iZ i1) O<|ac<|clZ O<|cg h λr h=>mvZ (ak b) O<|mvZ (iZ i1) O<|ac<|clZ O<|cg h λr1 h=>ac<|bj O O<|nZ<|cZ h O (λhb1 h=>?_) (λhb1 h=>?_)
  ·exact aj<|asZ (iZ<|-1) O<|aE<|gv1 hrg<|hQ _ h
  refine kZ<|aj<|mvZ (ak a) O<|mvZ (iZ i1) O<|ac<|clZ O<|cg h λr2 h=>mvZ (ak b) O<|mvZ (iZ i1) O<|ac<|clZ O<|cg h λr3 h=>ac<|c9 O O<|nZ<|cZ h O (λhb2 h=>?_) (λhb2 h=>?_)
  ·exact aj<|asZ (iZ 1) O<|aE<|gv1 hrg<|hQ _ h
  exact kZ<|rZ<|mvZ (iZ i1) O<|tkZ h (λhg1 h=>ac<|bW O O hg1<|asZ (iZ<|i1-1) O<|nZ<|⟨(i1-1),(canon (fZ<|fZ<|fZ<|fn)<|sn),h⟩)
 exact xsZ<|aj<|asZ (iZ 0) O<|aE<|gv1 hrg<|hQ _ h
theorem mX {a:List Int} {b:List Int} {Q:List Int->Int->Prop} (h:kq a b Q) (hQ:∀r1 r2,Q r1 r2->R (.tuple [ak r1,iZ r2]) S) :
  Ctr prog 116 [ak a,ak b] S R:=by
 refine aI func116 rfl ntmps116 results116 krZ (λrg hrg=>?_)
 refine aj<|asZ .nil O<|asZ (iZ 0) O<|nZ<|qZ<|aj<|mvZ (ak a) O<|mvZ (ak b) O<|ac<|clZ O<|mZ h λr h=>ac<|bj O O<|nZ<|cZ h O (λhb h=>?_) (λhb h=>?_)
 ·exact aj<|asZ .nil O<|asZ (iZ 3) O<|aE<|aC (v:=.nil) O<|aC (v:=iZ 3) O<|aK<|aO hrg (VW.tupL<|vl' (VW.nilL)<|vZ<|vn)<|hQ _ _ h
 refine kZ<|aj<|asZ .nil O<|aU<|asZ (.int .u64 0) O<|nZ<|qZ<|aj<|mvZ (ak a) O<|ac<|aJ bi O<|mvZ (iZ 0) O<|nZ<|bZ<|Vc.mat 6 32 1 O dZ (λg1=>lgZ h g1 (λy=>ba [(0,ak a),(1,ak b),(6,.sl 1 rg 32 y.2 0 y.1.2.2.length),(7,.int .u64 y.1.1),(15,iZ (a.length:Int)),(16,iZ y.1.2.1)]) (λy=>stL S rg [(32,.arr 1 (List.map (AV.int .u32) y.1.2.2),y.2)]) (canon (fZ<|fZ<|fc (VW.slen lzZ)<|fZ<|fZ<|fZ<|fn)<|sc O<|sn) (λy _ h=>?_))
 obtain⟨⟨borrow,x,out⟩,g2⟩:=y
 refine aj<|ac<|bj O O<|nZ<|qZ<|cZ h O (λhb1 h=>?_) (λhb1 h=>?_)
 ·exact kZ<|qZ<|bZ<|aj<|mvZ (iZ x) O<|asZ (iZ x) O<|aU<|mvZ (ak a) O<|mvZ (iZ x) O<|ac<|clZ O<|cg h λr1 h=>mvZ (ak b) O<|mvZ (iZ x) O<|ac<|clZ O<|cg h λr2 h=>ac<|p7 O O<|mvZ (.int .u64 borrow) O<|ac<|p7 O O<|stZ h (λs hs h=>wZ rg<|a9 (v:=.int .u64 s) (by subst hs;rfl)<|aU<|mvZ (.sl 1 rg 32 g2 0 out.length) O<|mvZ (.int .u64 s) O<|ac<|bL cL cB O<|wZ rg<|bq bi dJ cH (es:=[.int .u32 (IntKind.wrap .u32 s)]) O (kk:=1) O O O O O O (λg3=>tkZ h (λhg h=>wZ rg<|cS bi fU dJ cH (es:=out) (xs:=[(IntKind.wrap .u32 s)]) (enc:=AV.int .u32) (aZ 32 O) lzZ (bQ (aZ 31 O) lzZ) (kk:=1) O O (λ_=>O) (λ_=>O) hg O (λ_=>aV) (λg4=>asZ (.sl 1 rg 32 g4 0<|(out++[(IntKind.wrap .u32 s)]).length) O<|nZ<|rZ<|mvZ (.int .u64 s) O<|ac<|i8 O O dZ<|asZ (.int .u64<|s / 2^(Int.toNat 63)) O<|nZ<|rZ<|tkZ h (λhg1 h=>ac<|aG O O hg1<|mvZ (iZ<|x+1) O<|nZ<|⟨(((s / 2^(Int.toNat 63)),(x+1),(out++[(IntKind.wrap .u32 s)])),g4),(canon (aP<|fZ<|fZ<|fn)<|sc O<|sn),h⟩)))))
 exact xsZ<|aj<|mvZ (.sl 1 rg 32 g2 0 out.length) O<|fw (bw (k:=32) (xs:=List.map (AV.int .u32) out) O (es:=[(36,ak out)]) (fc (bk O)<|fn) (m:=[])<|sn)<|ac<|clZ O<|cV h λr3 h=>asZ (ak r3) O<|asZ (iZ 0) O<|aE<|aC (v:=ak r3) O<|aC (v:=iZ 0) O<|aK<|aO hrg (VW.tupL<|vZ<|vZ<|vn)<|hQ _ _ h
theorem qS {a:List Int} {s:Int} {Q:List Int->Prop} (h:nQ a s Q) (hQ:∀r1,Q r1->R (ak r1) S) :
  Ctr prog 257 [ak a,iZ s] S R:=by
 refine aI func257 rfl ntmps257 results257 krZ (λrg hrg=>?_)
 refine aj<|asZ .nil O<|aU<|asZ .nil O<|aU<|asZ (.int .u64 0) O<|nZ<|qZ<|aj<|mvZ (ak a) O<|ac<|aJ bi O<|mvZ (iZ 0) O<|nZ<|bZ<|Vc.mat 5 25 1 O dZ (λg1=>lgZ h g1 (λy=>ba [(1,iZ s),(5,.sl 1 rg 25 y.2 0 y.1.2.2.length),(6,.int .u64 y.1.1),(9,ak a),(10,iZ (a.length:Int)),(11,iZ y.1.2.1)]) (λy=>stL S rg [(25,.arr 1 (List.map (AV.int .u32) y.1.2.2),y.2)]) (canon (fZ<|fc (VW.slen lzZ)<|aP<|fn)<|sc O<|sn) (λy _ h=>?_))
 obtain⟨⟨carry,x,out⟩,g2⟩:=y
 refine aj<|ac<|bj O O<|nZ<|qZ<|cZ h O (λhb h=>?_) (λhb h=>?_)
 ·exact kZ<|qZ<|bZ<|aj<|tkZ h (λhg h=>ac<|aQ bi bn dZ (λ_=>O) O O hg<|ac<|aL bn dv O O (v:=.int .u32 (at' a x)) O<|asZ (.int .u32<|at' a x) O<|aU<|mvZ (.int .u64 carry) O<|mvZ (.int .u32<|at' a x) O<|ac<|bL cB cL O<|mvZ (iZ s) O<|tkZ h (λhg1 h=>ac<|oP O O hg1<|ac<|wD O O<|stZ h (λcarry1 hs h=>wZ rg<|a9 (v:=.int .u64 carry1) (by subst hs;rfl)<|aU<|mvZ (.sl 1 rg 25 g2 0 out.length) O<|mvZ (.int .u64 carry1) O<|ac<|bL cL cB O<|wZ rg<|bq bi dJ cH (es:=[.int .u32 (IntKind.wrap .u32 carry1)]) O (kk:=1) O O O O O O (λg3=>tkZ h (λhg2 h=>wZ rg<|cS bi fU dJ cH (es:=out) (xs:=[(IntKind.wrap .u32 carry1)]) (enc:=AV.int .u32) (aZ 25 O) lzZ (bQ (aZ 24 O) lzZ) (kk:=1) O O (λ_=>O) (λ_=>O) hg2 O (λ_=>aV) (λg4=>asZ (.sl 1 rg 25 g4 0<|(out++[(IntKind.wrap .u32 carry1)]).length) O<|nZ<|rZ<|mvZ (.int .u64 carry1) O<|ac<|i8 O O dZ<|asZ (.int .u64<|carry1 / 2^(Int.toNat 32)) O<|nZ<|rZ<|tkZ h (λhg3 h=>ac<|aG O O hg3<|mvZ (iZ<|x+1) O<|nZ<|⟨(((carry1 / 2^(Int.toNat 32)),(x+1),(out++[(IntKind.wrap .u32 carry1)])),g4),(canon (aP<|fZ<|fZ<|fn)<|sc O<|sn),h⟩)))))))
 exact xsZ<|aj<|mvZ (.sl 1 rg 25 g2 0 out.length) O<|mvZ (.int .u64 carry) O<|ac<|bL cL cB O<|wZ rg<|bq bi dJ cH (es:=[.int .u32 (IntKind.wrap .u32 carry)]) O (kk:=1) O O O O O O (λg5=>tkZ h (λhg4 h=>wZ rg<|cS bi fU dJ cH (es:=out) (xs:=[(IntKind.wrap .u32 carry)]) (enc:=AV.int .u32) (aZ 25 O) lzZ (bQ (aZ 32 O) lzZ) (kk:=1) O O (λ_=>O) (λ_=>O) hg4 O (λ_=>aV) (λg6=>fw (bw (k:=25) (xs:=List.map (AV.int .u32) (out++[(IntKind.wrap .u32 carry)])) O (es:=[(33,ak (out++[(IntKind.wrap .u32 carry)]))]) (fc (bk O)<|fn) (m:=[]) (sn)) (ac<|clZ O<|cV h λr h=>asZ (ak r) O<|aE<|gv1 hrg<|hQ _ h))))
theorem uH {a:List Int} {s:Int} {Q:List Int->Prop} (h:ls a s Q) (hQ:∀r1,Q r1->R (ak r1) S) :
  Ctr prog 258 [ak a,iZ s] S R:=by
 refine aI func258 rfl ntmps258 results258 krZ (λrg hrg=>?_)
 refine aj<|asZ .nil O<|aU<|asZ .nil O<|nZ<|qZ<|aj<|mvZ (ak a) O<|ac<|aJ bi O<|mvZ (iZ 0) O<|nZ<|bZ<|Vc.mat 5 26 1 O dZ (λg1=>lgZ h g1 (λy=>ba [(0,ak a),(1,iZ s),(5,.sl 1 rg 26 y.2 0 y.1.2.length),(8,iZ (a.length:Int)),(9,iZ y.1.1)]) (λy=>stL S rg [(26,.arr 1 (List.map (AV.int .u32) y.1.2),y.2)]) (canon (fZ<|fZ<|fc (VW.slen lzZ)<|fZ<|fZ<|fn)<|sc O<|sn) (λy _ h=>?_))
 obtain⟨⟨x,out⟩,g2⟩:=y
 refine aj<|ac<|bj O O<|nZ<|qZ<|cZ h O (λhb h=>?_) (λhb h=>?_)
 ·exact kZ<|qZ<|bZ<|aj<|mvZ (iZ x) O<|asZ (iZ x) O<|nZ<|rZ<|mvZ (.sl 1 rg 26 g2 0 out.length) O<|mvZ (ak a) O<|mvZ (iZ x) O<|ac<|clZ O<|cg h λr h=>mvZ (ak a) O<|mvZ (iZ x) O<|tkZ h (λhg h=>ac<|aG O O hg<|ac<|clZ O<|cg h λr1 h=>ac<|oP O O dZ<|ac<|wD O O<|mvZ (iZ s) O<|tkZ h (λhg1 h=>ac<|i8 O O hg1<|ac<|bL cL cB O<|wZ rg<|bq bi dJ cH (es:=[.int .u32 (IntKind.wrap .u32<|(bits .or .u64 r<|IntKind.wrap .u64<|r1*2^(Int.toNat 32)) / 2^(Int.toNat s))]) O (kk:=1) O O O O O O (λg3=>tkZ h (λhg2 h=>wZ rg<|cS bi fU dJ cH (es:=out) (xs:=[(IntKind.wrap .u32<|(bits .or .u64 r<|IntKind.wrap .u64<|r1*2^(Int.toNat 32)) / 2^(Int.toNat s))]) (enc:=AV.int .u32) (aZ 26 O) lzZ (bQ (aZ 25 O) lzZ) (kk:=1) O O (λ_=>O) (λ_=>O) hg2 O (λ_=>aV) (λg4=>asZ (.sl 1 rg 26 g4 0<|(out++[(IntKind.wrap .u32<|(bits .or .u64 r<|IntKind.wrap .u64<|r1*2^(Int.toNat 32)) / 2^(Int.toNat s))]).length) O (nZ<|rZ<|tkZ h (λhg3 h=>ac<|aG O O hg3<|mvZ (iZ<|x+1) O<|nZ<|⟨(((x+1),(out++[(IntKind.wrap .u32<|(bits .or .u64 r<|IntKind.wrap .u64<|r1*2^(Int.toNat 32)) / 2^(Int.toNat s))])),g4),(canon (aP<|fZ<|fn)<|sc O<|sn),h⟩)))))))
 exact xsZ<|aj<|mvZ (.sl 1 rg 26 g2 0 out.length) O<|fw (bw (k:=26) (xs:=List.map (AV.int .u32) out) O (es:=[(28,ak out)]) (fc (bk O)<|fn) (m:=[])<|sn)<|ac<|clZ O<|cV h λr2 h=>asZ (ak r2) O<|aE<|gv1 hrg<|hQ _ h
theorem mY {a:List Int} {b:List Int} {Q:List Int->List Int->Int->Prop} (h:kr a b Q) (hQ:∀r1 r2 r3,Q r1 r2 r3->R (.tuple [ak r1,ak r2,iZ r3]) S) :
  Ctr prog 191 [ak a,ak b] S R:=by
 refine aI func191 rfl ntmps191 results191 krZ (λrg hrg=>?_)
 refine aj<|asZ .nil O<|asZ .nil O<|asZ (iZ 0) O<|aU<|mvZ (ak b) O<|ac<|clZ O<|cV h λb1 h=>asZ (ak b1) O<|aU<|mvZ (ak b1) O<|ac<|aJ bi O<|asZ (iZ (b1.length:Int)) O<|nZ<|qZ<|aj<|mvZ (iZ (b1.length:Int)) O<|ac<|bK O O<|nZ<|cZ h O (λhb h=>?_) (λhb h=>?_)
 ·exact aj<|asZ .nil O<|asZ .nil O<|asZ (iZ 8) O<|aE<|aC (v:=.nil) O<|aC (v:=.nil) O<|aC (v:=iZ 8) O<|aK<|aO hrg (VW.tupL<|vl' (VW.nilL)<|vl' (VW.nilL)<|vZ<|vn)<|hQ _ _ _ h
 refine kZ<|aj<|asZ (iZ 0) O<|nZ<|qZ<|bZ<|lpZ h (λy=>ba [(0,ak a),(1,ak b1),(7,iZ (b1.length:Int)),(8,iZ y)]) (λy=>stL S rg []) (canon (aP<|fn)<|sn) (λs _ h=>qZ<|aj<|mvZ (ak b1) O<|mvZ (iZ (b1.length:Int)) O<|tkZ h (λhg h=>ac<|bW O O hg<|tkZ h (λhg1 h=>ac<|aQ bi bn dZ (λ_=>O) O O hg1<|ac<|aL bn dv O O (v:=.int .u32 (at' b1<|(b1.length:Int)-1)) O (mvZ (iZ s) O<|tkZ h (λhg2 h=>ac<|oP O O hg2<|ac<|DD O O<|ac<|bK O O<|nZ<|cZ h O (λhb1 h=>?_) (λhb1 h=>?_))))))
 ·exact kZ<|bZ<|rZ<|mvZ (iZ s) O<|tkZ h (λhg3 h=>ac<|aG O O hg3<|asZ (iZ<|s+1) O<|nZ<|⟨(s+1),(canon (aP<|fn)<|sn),h⟩)
 refine xsZ<|aj<|mvZ (ak a) O<|mvZ (iZ s) O<|ac<|clZ O<|qS h λa1 h=>mvZ (ak b1) O<|mvZ (iZ s) O<|ac<|clZ O<|qS h λb2 h=>asZ (ak a1) O<|asZ (ak b2) O<|nZ<|qZ<|tkZ h (λhg4 h=>tkZ h (λhg5 h=>tkZ h (λhg6 h=>tkZ h (λhg7 h=>tkZ h (λhg8 h=>Vc.drawn' bA rg (λ_=>fS) krZ<|dP O O<|aA (v:=ak a1) O<|dP O O<|aJ bi O<|dL (E:=([],[(rg,39)])) O O zSm (cfn) (gb bi fU dJ (enc:=AV.int .u32) (z':=0) cH (kk:=1) O O O hg4 (λg1=>dL (E:=([],[(rg,40)])) O O zSm (cfa zAp<|cfn) (bq bi dJ cH (es:=[]) O (kk:=1) O O O O O O (λg2=>dP O O<|aA (v:=ak a1) O<|dP O O<|aA (v:=ak a1) O<|dP O O<|aJ bi O<|dP O O<|aA (v:=iZ (b1.length:Int)) O<|dP O O<|bW O O hg5<|dP O O<|aG O O hg6<|dP O O<|zh O O<|dP O O<|fO bi bn dZ (λ_=>O) O (l:=(max 0<|((a1.length:Int)-(b1.length:Int))+1)) (h:=(a1.length:Int)) O O hg7 (dL (E:=([],[(rg,40)])) O O zSm (cfo krZ<|cfa zAp<|cfn) (cS bi fU dJ cH (es:=([]:List Int)) (xs:=(bf a1 (max 0<|((a1.length:Int)-(b1.length:Int))+1) (a1.length:Int))) (enc:=AV.int .u32) (aZ 40 O) lzZ (O) (kk:=1) O O (λ_=>O) (λ_=>O) hg8 O (λ_=>aV) (λg3=>?_))))))))))))
 refine dP O O<|a9 (v:=.sl 1 rg 39 g1 0 (Int.toNat (a1.length:Int))) O (dP O O<|a9 (v:=.sl 1 rg 40 g3 0 ((([]:List Int)++(bf a1 (max 0<|((a1.length:Int)-(b1.length:Int))+1) (a1.length:Int))).length)) O (dN<|qZ<|aj<|mvZ (ak a1) O<|ac<|aJ bi O<|mvZ (iZ (b1.length:Int)) O<|tkZ h (λhg9 h=>ac<|bW O O hg9<|asZ (iZ<|(a1.length:Int)-(b1.length:Int)) O<|nZ<|bZ<|Ep (bw (k:=40) (xs:=List.map (AV.int .u32) (([]:List Int)++(bf a1 (max 0<|((a1.length:Int)-(b1.length:Int))+1) (a1.length:Int)))) O (es:=[(0,ak a1),(1,ak b2),(7,iZ (b1.length:Int)),(8,iZ s),(9,.sl 1 rg 39 g1 0 (Int.toNat (a1.length:Int))),(10,ak (([]:List Int)++(bf a1 (max 0<|((a1.length:Int)-(b1.length:Int))+1) (a1.length:Int)))),(11,iZ ((a1.length:Int)-(b1.length:Int)))]) (aP<|fc (gh O)<|fc (bk O)<|fZ<|fn) (m:=[(39,.arr 1 (List.map (AV.int .u32)<|bS (a1.length:Int) 0),g1)]) (sc O<|sn)) (lpZ h (λy=>ba [(0,ak a1),(1,ak b2),(7,iZ (b1.length:Int)),(8,iZ s),(9,.sl 1 rg 39 g1 0 y.2.2.length),(10,ak y.1),(11,iZ y.2.1)]) (λy=>stL S rg [(39,.arr 1 (List.map (AV.int .u32) y.2.2),g1)]) (canon (aP<|fc (VW.slen lzZ)<|fZ<|fZ<|fn)<|sc O<|sn) (λy _ h=>?_)))))
 obtain⟨r,i,q⟩:=y
 refine qZ<|aj<|mvZ (iZ i) O<|ac<|fB O O<|nZ<|cZ h O (λhb2 h=>?_) (λhb2 h=>?_)
 ·refine kZ<|qZ<|bZ<|aj<|mvZ (ak a1) O<|mvZ (iZ i) O<|tkZ h (λhg10 h=>ac<|aQ bi bn dZ (λ_=>O) O O hg10<|ac<|aL bn dv O O (v:=.int .u32 (at' a1 i)) O<|wZ rg<|bq bi dJ cH (es:=[.int .u32 (at' a1 i)]) O (kk:=1) O O O O O O (λg4=>mvZ (ak r) O<|tkZ h (λhg11 h=>wZ rg<|cS bi fU dJ cH (es:=[(at' a1 i)]) (xs:=r) (enc:=AV.int .u32) (aZ 62 O) lzZ (O) (kk:=1) O O (λ_=>O) (λ_=>O) hg11 O (λ_=>aV) (λg5=>fw (bw (k:=62) (xs:=List.map (AV.int .u32) ([(at' a1 i)]++r)) O (es:=[(0,ak a1),(1,ak b2),(7,iZ (b1.length:Int)),(8,iZ s),(9,.sl 1 rg 39 g1 0 q.length),(11,iZ i),(64,ak ([(at' a1 i)]++r))]) (aP<|fc (gh O)<|fZ<|fc (bk O)<|fn) (m:=[(39,.arr 1 (List.map (AV.int .u32) q),g1)]) (sc O<|sn)) (ac<|clZ O<|cV h λr1 h=>asZ (ak r1) O<|aU<|mvZ (ak r1) O<|mvZ (iZ (b1.length:Int)) O<|ac<|clZ O<|cg h λr2 h=>ac<|oP O O dZ<|mvZ (ak r1) O<|mvZ (iZ (b1.length:Int)) O<|tkZ h (λhg12 h=>ac<|bW O O hg12<|ac<|clZ O<|cg h λr3 h=>ac<|wD O O<|mvZ (ak b2) O<|mvZ (iZ (b1.length:Int)) O<|tkZ h (λhg13 h=>ac<|bW O O hg13<|ac<|clZ O<|cg h λr4 h=>tkZ h (λhg14 h=>ac<|Bi O O hg14<|ac<|FQ O O<|stZ h (λguess hs h=>?_)))))))))
  refine wZ rg<|a9 (v:=.int .u64 guess) (by subst hs;rfl)<|aU<|mvZ (ak b2) O<|mvZ (.int .u64 guess) O<|ac<|bL cL cB O<|wZ rg<|bq bi dJ cH (es:=[.int .u32 (IntKind.wrap .u32 guess)]) O (kk:=1) O O O O O O (λg6=>fw (bw (k:=84) (xs:=List.map (AV.int .u32) [(IntKind.wrap .u32 guess)]) O (es:=[(0,ak a1),(1,ak b2),(7,iZ (b1.length:Int)),(8,iZ s),(9,.sl 1 rg 39 g1 0 q.length),(10,ak r1),(11,iZ i),(12,.int .u64 guess),(81,ak b2),(84,ak [(IntKind.wrap .u32 guess)])]) (aP<|fc (gh O)<|aP<|fc (bk O)<|fn) (m:=[(39,.arr 1 (List.map (AV.int .u32) q),g1)]) (sc O<|sn)) (ac<|clZ O<|eS h λp h=>asZ (ak p) O<|nZ<|qZ<|bZ<|lpZ h (λy=>ba [(0,ak a1),(1,ak b2),(7,iZ (b1.length:Int)),(8,iZ s),(9,.sl 1 rg 39 g1 0 q.length),(10,ak r1),(11,iZ i),(12,.int .u64 y.1),(13,ak y.2)]) (λy=>stL S rg [(39,.arr 1 (List.map (AV.int .u32) q),g1)]) (canon (aP<|aP<|fZ<|fn)<|sc O<|sn) (λy _ h=>?_)))
  obtain⟨guess1,p1⟩:=y
  refine qZ<|aj<|mvZ (ak p1) O<|mvZ (ak r1) O<|ac<|clZ O<|mZ h λr5 h=>ac<|c9 O O<|nZ<|cZ h O (λhb3 h=>?_) (λhb3 h=>?_)
  ·exact kZ<|bZ<|aj<|mvZ (.int .u64 guess1) O<|ac<|p7 O O<|asZ (.int .u64<|IntKind.wrap .u64<|guess1-1) O<|nZ<|rZ<|mvZ (ak p1) O<|mvZ (ak b2) O<|ac<|clZ O<|mX h λr6 r7 h=>mvZ (.tuple [ak r6,iZ r7]) O<|ac<|ar (v:=ak r6) O O O<|ac<|ar (v:=iZ r7) O O O<|asZ (ak r6) O<|nZ<|⟨((IntKind.wrap .u64<|guess1-1),r6),(canon (aP<|aP<|fZ<|fn)<|sc O<|sn),h⟩
  exact xsZ<|aj<|mvZ (ak r1) O<|mvZ (ak p1) O<|ac<|clZ O<|mX h λr8 r9 h=>mvZ (.tuple [ak r8,iZ r9]) O<|ac<|ar (v:=ak r8) O O O<|ac<|ar (v:=iZ r9) O O O<|asZ (ak r8) O<|nZ<|rZ<|mvZ (.sl 1 rg 39 g1 0 q.length) O<|mvZ (iZ i) O<|mvZ (.int .u64 guess1) O<|ac<|bL cL cB O<|tkZ h (λhi h=>ac<|bm bi bn dZ O O hi<|ac<|bR (aZ 39 O) bn dZ (x':=(IntKind.wrap .u32 guess1)) (λ_=>O) O O (bH hi lzZ) O O aV<|nZ<|rZ<|mvZ (iZ i) O<|tkZ h (λhg15 h=>ac<|bW O O hg15<|asZ (iZ<|i-1) O<|nZ<|⟨(r8,(i-1),(bu q i<|IntKind.wrap .u32 guess1)),(canon (aP<|fc (VW.slen lzZ)<|fZ<|fZ<|fn)<|sc O<|sn),h⟩))
 exact xsZ<|aj<|mvZ (.sl 1 rg 39 g1 0 q.length) O<|fw (bw (k:=39) (xs:=List.map (AV.int .u32) q) O (es:=[(8,iZ s),(10,ak r),(109,ak q)]) (fZ<|fZ<|fc (bk O)<|fn) (m:=[]) (sn)) (ac<|clZ O<|cV h λr10 h=>mvZ (ak r) O<|mvZ (iZ s) O<|ac<|clZ O<|uH h λr11 h=>asZ (ak r10) O<|asZ (ak r11) O<|asZ (iZ 0) O<|aE<|aC (v:=ak r10) O<|aC (v:=ak r11) O<|aC (v:=iZ 0) O<|aK<|aO hrg (VW.tupL<|vZ<|vZ<|vZ<|vn)<|hQ _ _ _ h)
theorem pZ {a:List Int} {b:List Int} {Q:List Int->Prop} (h:mD a b Q) (hQ:∀r1,Q r1->R (ak r1) S) :
  Ctr prog 190 [ak a,ak b] S R:=by
 refine aI func190 rfl ntmps190 results190 krZ (λrg hrg=>?_)
 refine aj<|asZ .nil O<|aU<|mvZ (ak a) O<|ac<|clZ O<|cV h λa1 h=>mvZ (ak b) O<|ac<|clZ O<|cV h λb1 h=>asZ (ak a1) O<|asZ (ak b1) O<|nZ<|qZ<|bZ<|lpZ h (λy=>ba [(0,ak y.1),(1,ak y.2)]) (λy=>stL S rg []) (canon (fZ<|fZ<|fn)<|sn) (λy _ h=>?_)
 obtain⟨a2,b2⟩:=y
 refine qZ<|aj<|mvZ (ak b2) O<|ac<|aJ bi O<|ac<|c9 O O<|nZ<|cZ h O (λhb h=>?_) (λhb h=>?_)
 ·exact kZ<|bZ<|aj<|mvZ (ak a2) O<|mvZ (ak b2) O<|ac<|clZ O<|mY h λr r1 r2 h=>mvZ (.tuple [ak r,ak r1,iZ r2]) O<|ac<|ar (v:=ak r) O O O<|ac<|ar (v:=ak r1) O O O<|ac<|ar (v:=iZ r2) O O O<|asZ (ak r) O<|asZ (ak r1) O<|asZ (iZ r2) O<|nZ<|rZ<|mvZ (ak b2) O<|mvZ (ak r1) O<|asZ (ak b2) O<|asZ (ak r1) O<|nZ<|⟨(b2,r1),(canon (fZ<|fZ<|fn)<|sn),h⟩
 exact xsZ<|aj<|mvZ (ak a2) O<|asZ (ak a2) O<|aE<|gv1 hrg<|hQ _ h
theorem wy {a:List Int} {b:List Int} {Q:List Int->Prop} (h:mF a b Q) (hQ:∀r1,Q r1->R (ak r1) S) :
  Ctr prog 114 [ak a,ak b] S R:=by
 refine aI func114 rfl ntmps114 results114 krZ (λrg hrg=>?_)
 refine aj<|asZ .nil O<|aU<|asZ .nil O<|aU<|asZ (.int .u64 0) O<|nZ<|qZ<|aj<|mvZ (ak a) O<|ac<|aJ bi O<|mvZ (ak b) O<|ac<|aJ bi O<|ac<|zh O O<|tkZ h (λhg h=>ac<|aG O O hg<|mvZ (iZ 0) O<|nZ<|bZ<|Vc.mat 5 31 1 O dZ (λg1=>lgZ h g1 (λy=>ba [(0,ak a),(1,ak b),(5,.sl 1 rg 31 y.2 0 y.1.2.2.length),(6,.int .u64 y.1.1),(14,iZ ((max (a.length:Int) (b.length:Int))+1)),(15,iZ y.1.2.1)]) (λy=>stL S rg [(31,.arr 1 (List.map (AV.int .u32) y.1.2.2),y.2)]) (canon (fZ<|fZ<|fc (VW.slen lzZ)<|fZ<|fZ<|fZ<|fn)<|sc O<|sn) (λy _ h=>?_)))
 obtain⟨⟨carry,x,out⟩,g2⟩:=y
 refine aj<|ac<|bj O O<|nZ<|qZ<|cZ h O (λhb h=>?_) (λhb h=>?_)
 ·exact kZ<|qZ<|bZ<|aj<|mvZ (iZ x) O<|asZ (iZ x) O<|aU<|mvZ (ak a) O<|mvZ (iZ x) O<|ac<|clZ O<|cg h λr h=>mvZ (ak b) O<|mvZ (iZ x) O<|ac<|clZ O<|cg h λr1 h=>ac<|nq O O<|mvZ (.int .u64 carry) O<|ac<|nq O O<|stZ h (λs hs h=>wZ rg<|a9 (v:=.int .u64 s) (by subst hs;rfl)<|aU<|mvZ (.sl 1 rg 31 g2 0 out.length) O<|mvZ (.int .u64 s) O<|ac<|bL cL cB O<|wZ rg<|bq bi dJ cH (es:=[.int .u32 (IntKind.wrap .u32 s)]) O (kk:=1) O O O O O O (λg3=>tkZ h (λhg1 h=>wZ rg<|cS bi fU dJ cH (es:=out) (xs:=[(IntKind.wrap .u32 s)]) (enc:=AV.int .u32) (aZ 31 O) lzZ (bQ (aZ 30 O) lzZ) (kk:=1) O O (λ_=>O) (λ_=>O) hg1 O (λ_=>aV) (λg4=>asZ (.sl 1 rg 31 g4 0<|(out++[(IntKind.wrap .u32 s)]).length) O<|nZ<|rZ<|mvZ (.int .u64 s) O<|ac<|i8 O O dZ<|asZ (.int .u64<|s / 2^(Int.toNat 32)) O<|nZ<|rZ<|tkZ h (λhg2 h=>ac<|aG O O hg2<|mvZ (iZ<|x+1) O<|nZ<|⟨(((s / 2^(Int.toNat 32)),(x+1),(out++[(IntKind.wrap .u32 s)])),g4),(canon (aP<|fZ<|fZ<|fn)<|sc O<|sn),h⟩)))))
 exact xsZ<|aj<|mvZ (.sl 1 rg 31 g2 0 out.length) O<|fw (bw (k:=31) (xs:=List.map (AV.int .u32) out) O (es:=[(35,ak out)]) (fc (bk O)<|fn) (m:=[])<|sn)<|ac<|clZ O<|cV h λr2 h=>asZ (ak r2) O<|aE<|gv1 hrg<|hQ _ h
end Go.Proofs.YtnjgdkfhgmebjaaGreat
namespace Go.Proofs.YtnjgdkfhgmebjaaGreat
open Go.Gg Tryz
set_option maxRecDepth 100000
variable {S:St} {R:AV->St->Prop}
theorem jQ {Q:List Int->Prop} (h:jq Q) (hQ:∀r1,Q r1->R (ak r1) S) :
  Ctr prog 196 [] S R:=by
 refine aI func196 rfl ntmps196 results196 krZ (λrg hrg=>?_)
 exact aj<|asZ .nil O<|aU<|wZ rg<|bq bi dJ cH (es:=[.int .u32 1]) O (kk:=1) O O O O O O (λg1=>asZ (.sl 1 rg 1 g1 0<|[1].length) O<|aE<|aC (v:=.sl 1 rg 1 g1 0 ([1].length)) O<|aK<|br (k:=1) (xs:=List.map (AV.int .u32) [1]) O (v':=ak [1]) (bk O)<|goZ hrg<|hQ _ h)
theorem lY {a:List Int} {Q:Bool->Prop} (h:ij a Q) (hQ:∀r1,Q r1->R (AV.bool r1) S) :
  Ctr prog 259 [ak a] S R:=by
 refine aI func259 rfl ntmps259 results259 krZ (λrg hrg=>?_)
 refine aj<|asZ (.bool false) O<|aU<|mvZ (ak a) O<|ac<|aJ bi O<|ac<|c9 O O<|mvZ (.bool<|decide<|0<(a.length:Int)) O<|gtZ h O O (λhb h=>?_) (λhb h=>?_)
 ·exact mvZ (ak a) O<|gTZ O O hb<|mvZ (ak a) O<|gTZ O O hb<|ac<|aJ bi O<|gTZ O O hb<|tkZ h (λhg h=>ac<|bW O O hg<|gTZ O O hb<|tkZ h (λhg1 h=>ac<|aQ bi bn dZ (λ_=>O) O O hg1<|gTZ O O hb<|ac<|aL bn dv O O (v:=.int .u32 (at' a<|(a.length:Int)-1)) O (gTZ O O hb<|ac<|c8 O O<|ac<|be O hb (v:=.bool ((at' a<|(a.length:Int)-1) != 0)) O (asZ (.bool<|(at' a<|(a.length:Int)-1) != 0) O (aE<|gv1 hrg<|hQ _ h)))))
 exact gFZ O O hb O<|gFZ O O hb O<|gFZ O O hb O<|gFZ O O hb O<|gFZ O O hb O<|gFZ O O hb O<|ac<|bd O hb (v:=.bool false) O<|asZ (.bool false) O<|aE<|gv1 hrg<|hQ _ h
theorem lZ {a:GRat} {Q:Bool->Prop} (h:ik a Q) (hQ:∀r1,Q r1->R (AV.bool r1) S) :
  Ctr prog 192 [am a] S R:=by
 refine aI func192 rfl ntmps192 results192 krZ (λrg hrg=>?_)
 refine aj<|wZ rg<|bC (v:=am a) O O (kk:=3) O dZ (λg1=>asZ (.bool false) O<|nZ<|qZ<|jgZ (γ:=Nat) h (λy=>ba [(1,.ptr rg 1 y.2 0 0),(12,.bool y.1)]) (λy=>stL S rg [(1,.arr 3 [am a],y.2)]) (λy h=>?_) (λ_ h=>?_))
 ·obtain⟨x,g2⟩:=y
  refine cZ h O (λhb h=>?_) (λhb h=>?_)
  ·exact aj<|ac<|aF oZ O<|ac<|af (aZ 1 O) sz4 ag4 O O (v:=.bool a.Y) O<|ac<|gK O<|asZ (.bool<|!a.Y) O<|aE<|gv1 hrg<|hQ _ h
  refine kZ<|aj<|ac<|aF iC O<|ac<|af (aZ 1 O) iE jd O O (v:=ak a.J) O<|ac<|clZ O<|lY h λr h=>mvZ (.bool r) O<|gtZ h O O (λhb1 h=>?_) (λhb1 h=>?_)
  ·refine ac<|aF jz O<|gTZ O O hb1<|ac<|af (aZ 1 O) iE jd O O (v:=ak a.L) O<|gTZ O O hb1<|ac<|clZ O<|lY h λr1 h=>ac<|be O hb1 (v:=.bool r1) O<|mvZ (.bool r1) O<|gtZ h O O (λhb2 h=>?_) (λhb2 h=>?_)
   ·exact ac<|aF iC O<|gTZ O O hb2<|ac<|af (aZ 1 O) iE jd O O (v:=ak a.J) O<|gTZ O O hb2<|ac<|aF jz O<|gTZ O O hb2<|ac<|af (aZ 1 O) iE jd O O (v:=ak a.L) O<|gTZ O O hb2<|ac<|clZ O<|oe h λr2 h=>gTZ O O hb2<|ac<|clZ O<|jQ h λr3 h=>gTZ O O hb2<|ac<|clZ O<|gy h λr4 h=>gTZ O O hb2<|ac<|bK O O<|ac<|be O hb2 (v:=.bool (r4 == 0)) O<|asZ (.bool<|r4 == 0) O<|aE<|gv1 hrg<|hQ _ h
   exact gFZ O O hb2 O<|gFZ O O hb2 O<|gFZ O O hb2 O<|gFZ O O hb2 O<|gFZ O O hb2 O<|gFZ O O hb2 O<|gFZ O O hb2 O<|ac<|bd O hb2 (v:=.bool false) O<|asZ (.bool false) O<|aE<|gv1 hrg<|hQ _ h
  exact gFZ O O hb1 O<|gFZ O O hb1 O<|ac<|bd O hb1 (v:=.bool false) O<|mvZ (.bool false) O<|gFZ O O O O<|gFZ O O O O<|gFZ O O O O<|gFZ O O O O<|gFZ O O O O<|gFZ O O O O<|gFZ O O O O<|gFZ O O O O<|ac<|bd O O (v:=.bool false) O<|asZ (.bool false) O<|aE<|gv1 hrg<|hQ _ h
 refine rZ<|ac<|aF iC O<|ac<|af (aZ 1 O) iE jd O O (v:=ak a.J) O<|ac<|aJ bi O<|ac<|bK O O<|mvZ (.bool<|(a.J.length:Int) == 0) O<|gtZ h O O (λhb3 h=>?_) (λhb3 h=>?_)
 ·exact ac<|aF jz O<|gTZ O O hb3<|ac<|af (aZ 1 O) iE jd O O (v:=ak a.L) O<|gTZ O O hb3<|ac<|aJ bi O<|gTZ O O hb3<|ac<|bK O O<|ac<|be O hb3 (v:=.bool ((a.L.length:Int) == 0)) O (nZ<|⟨(((a.L.length:Int) == 0),g1),(canon (fZ<|fZ<|fn)<|sc O<|sn),h⟩)
 exact gFZ O O hb3 O<|gFZ O O hb3 O<|gFZ O O hb3 O<|ac<|bd O hb3 (v:=.bool false) O<|nZ<|⟨(false,g1),(canon (fZ<|fZ<|fn)<|sc O<|sn),h⟩
theorem c7 {a:GRat} {Q:Bool->List Int->List Int->Prop} (h:cR a Q) (hQ:∀r1 r2 r3,Q r1 r2 r3->R (.tuple [AV.bool r1,ak r2,ak r3]) S) :
  Ctr prog 163 [am a] S R:=by
 refine aI func163 rfl ntmps163 results163 krZ (λrg hrg=>?_)
 refine aj<|wZ rg<|bC (v:=am a) O O (kk:=3) O dZ (λg1=>asZ (.bool false) O<|asZ .nil O<|asZ .nil O<|nZ<|qZ<|jgZ (γ:=Nat) h (λy=>ba [(1,.ptr rg 1 y.2 0 0),(13,.bool y.1)]) (λy=>stL S rg [(1,.arr 3 [am a],y.2)]) (λy h=>?_) (λ_ h=>?_))
 ·obtain⟨x,g2⟩:=y
  refine cZ h O (λhb h=>?_) (λhb h=>?_)
  ·exact aj<|ac<|clZ O<|jQ h λr h=>asZ (.bool false) O<|asZ .nil O<|asZ (ak r) O<|aE<|aC (v:=.bool false) O<|aC (v:=.nil) O<|aC (v:=ak r) O<|aK<|aO hrg (VW.tupL<|vZ<|vl' (VW.nilL)<|vZ<|vn)<|hQ _ _ _ h
  exact kZ<|qZ<|Vc.drawn' bA rg (λ_=>fS) krZ<|dP O O<|aF oZ O<|dL (E:=([(rg,1)],[])) O O zSm (cfn) (af (aZ 1 O) sz4 ag4 O O (v:=.bool a.Y) O<|dP O O<|aF iC O<|dL (E:=([(rg,1)],[])) O O zSm (cfa zAp<|cfn) (af (aZ 1 O) iE jd O O (v:=ak a.J) O<|dP O O<|aF jz O<|dL (E:=([(rg,1)],[])) O O zSm (cfa zAp<|cfa zAp<|cfn) (af (aZ 1 O) iE jd O O (v:=ak a.L) O<|dP O O<|a9 (v:=.bool a.Y) O<|dP O O<|a9 (v:=ak a.J) O<|dP O O<|a9 (v:=ak a.L) O<|dN<|uZ<|aC (v:=.bool a.Y) O<|aC (v:=ak a.J) O<|aC (v:=ak a.L) O<|aK<|aO hrg (VW.tupL<|vZ<|vZ<|vZ<|vn)<|hQ _ _ _ h)))
 refine rZ<|ac<|aw (aZ 1 O) aS dZ bz O O (v:=am a) O<|ac<|clZ O<|lZ h λr1 h=>ac<|gK O<|mvZ (.bool<|!r1) O<|gfZ h O O (λhb1 h=>?_) (λhb1 h=>?_)
 ·exact ac<|aF iC O<|gTZ O O hb1<|ac<|af (aZ 1 O) iE jd O O (v:=ak a.J) O<|gTZ O O hb1<|ac<|aJ bi O<|gTZ O O hb1<|ac<|bK O O<|ac<|bd O hb1 (v:=.bool ((a.J.length:Int) == 0)) O (nZ<|⟨(((a.J.length:Int) == 0),g1),(canon (fZ<|fZ<|fn)<|sc O<|sn),h⟩)
 exact gFZ O O hb1 O<|gFZ O O hb1 O<|gFZ O O hb1 O<|ac<|be O hb1 (v:=.bool true) O<|nZ<|⟨(true,g1),(canon (fZ<|fZ<|fn)<|sc O<|sn),h⟩
theorem dk {neg:Bool} {num:List Int} {den:List Int} {Q:GRat->Prop} (h:cN neg num den Q) (hQ:∀r1,Q r1->R (am r1) S) :
  Ctr prog 165 [AV.bool neg,ak num,ak den] S R:=by
 refine aI func165 rfl ntmps165 results165 krZ (λrg hrg=>?_)
 refine aj<|wZ rg<|aW bF dh (kk:=3) O (λg1=>nZ<|qZ<|aj<|mvZ (ak num) O<|ac<|clZ O<|sy h λr h=>ac<|bK O O<|nZ<|cZ h O (λhb h=>?_) (λhb h=>?_))
 ·exact aj<|ac<|bG nK bF li kX aS (ps:=[]) O O (v:=.agg [.bool false,.nil,.nil]) O<|ac<|ay (aZ 6 O) aS dZ O (w:=.agg [.bool false,.nil,.nil]) O O O (v:=.agg [.bool false,.nil,.nil]) O aV<|aE<|bc (aZ 6 O) aS dZ bz O O (v:=.agg [.bool false,.nil,.nil]) O<|aK<|aO hrg (VW.aggL<|vZ<|vl' (VW.nilL)<|vl' (VW.nilL)<|vn)<|hQ _ h
 exact kZ<|aj<|mvZ (ak num) O<|mvZ (ak den) O<|ac<|clZ O<|oe h λg2 h=>asZ (ak g2) O<|aU<|mvZ (ak num) O<|mvZ (ak g2) O<|ac<|clZ O<|kM h λr1 r2 r3 h=>mvZ (.tuple [ak r1,ak r2,aY 82 r3]) O<|ac<|ar (v:=ak r1) O O O<|ac<|ar (v:=ak r2) O O O<|ac<|ar (v:=aY 82 r3) O O O<|asZ (ak r1) O<|asZ (ak r2) O<|asZ (aY 82 r3) O<|aU<|mvZ (ak den) O<|mvZ (ak g2) O<|ac<|clZ O<|kM h λr4 r5 r6 h=>mvZ (.tuple [ak r4,ak r5,aY 82 r6]) O<|ac<|ar (v:=ak r4) O O O<|ac<|ar (v:=ak r5) O O O<|ac<|ar (v:=aY 82 r6) O O O<|asZ (ak r4) O<|asZ (ak r5) O<|asZ (aY 82 r6) O<|aU<|mvZ (.bool neg) O<|mvZ (ak r1) O<|mvZ (ak r4) O<|ac<|bG nK bF li kX aS (ps:=[(0,.bool neg),(1,ak r1),(2,ak r4)]) O O (v:=.agg [.bool neg,ak r1,ak r4]) O (ac<|ay (aZ 6 O) aS dZ O (w:=.agg [.bool neg,ak r1,ak r4]) O O O (v:=.agg [.bool neg,ak r1,ak r4]) O aV<|aE<|bc (aZ 6 O) aS dZ bz O O (v:=.agg [.bool neg,ak r1,ak r4]) O<|aK<|goZ hrg<|hQ _ h)
theorem io {a:GRat} {b:GRat} {Q:GRat->Prop} (h:d9 a b Q) (hQ:∀r1,Q r1->R (am r1) S) :
  Ctr prog 91 [am a,am b] S R:=by
 refine aI func91 rfl ntmps91 results91 krZ (λrg hrg=>?_)
 refine aj<|wZ rg<|bC (v:=am a) O O (kk:=3) O dZ (λg1=>wZ rg<|bC (v:=am b) O O (kk:=3) O dZ (λg2=>wZ rg<|aW bF dh (kk:=3) O (λg3=>aU<|ac<|aw (aZ 2 O) aS dZ bz O O (v:=am a) O<|ac<|clZ O<|c7 h λr r1 r2 h=>mvZ (.tuple [.bool r,ak r1,ak r2]) O<|ac<|ar (v:=.bool r) O O O<|ac<|ar (v:=ak r1) O O O<|ac<|ar (v:=ak r2) O O O<|asZ (.bool r) O<|asZ (ak r1) O<|asZ (ak r2) O<|aU<|ac<|aw (aZ 3 O) aS dZ bz O O (v:=am b) O<|ac<|clZ O<|c7 h λr3 r4 r5 h=>mvZ (.tuple [.bool r3,ak r4,ak r5]) O<|ac<|ar (v:=.bool r3) O O O<|ac<|ar (v:=ak r4) O O O<|ac<|ar (v:=ak r5) O O O<|asZ (.bool r3) O<|asZ (ak r4) O<|asZ (ak r5) O<|aU<|mvZ (ak r1) O<|mvZ (ak r5) O<|ac<|clZ O<|eF h λp h=>mvZ (ak r4) O<|mvZ (ak r2) O<|ac<|clZ O<|eF h λq h=>asZ (ak p) O<|asZ (ak q) O<|aU<|mvZ (ak r2) O<|mvZ (ak r5) O<|ac<|clZ O<|eF h λden h=>asZ (ak den) O<|nZ<|qZ<|aj<|mvZ (.bool r) O<|mvZ (.bool r3) O<|ac<|Af td4 O O<|nZ<|cZ h O (λhb h=>?_) (λhb h=>?_))))
 ·exact aj<|mvZ (.bool r) O<|mvZ (ak p) O<|mvZ (ak q) O<|ac<|clZ O<|tP h λr6 h=>mvZ (ak den) O<|ac<|clZ O<|dk h λr7 h=>ac<|ay (aZ 4 O) aS dZ O (w:=am r7) O O O (v:=am r7) O aV<|aE<|bc (aZ 4 O) aS dZ bz O O (v:=am r7) O<|aK<|goZ hrg<|hQ _ h
 refine kZ<|qZ<|aj<|mvZ (ak p) O<|mvZ (ak q) O<|ac<|clZ O<|gy h λr8 h=>ac<|fB O O<|nZ<|cZ h O (λhb1 h=>?_) (λhb1 h=>?_)
 ·exact aj<|mvZ (ak p) O<|mvZ (ak q) O<|ac<|clZ O<|od h λr9 r10 h=>mvZ (.tuple [ak r9,aY 82 r10]) O<|ac<|ar (v:=ak r9) O O O<|ac<|ar (v:=aY 82 r10) O O O<|asZ (ak r9) O<|asZ (aY 82 r10) O<|aU<|mvZ (.bool r) O<|mvZ (ak r9) O<|mvZ (ak den) O<|ac<|clZ O<|dk h λr11 h=>ac<|ay (aZ 4 O) aS dZ O (w:=am r11) O O O (v:=am r11) O aV<|aE<|bc (aZ 4 O) aS dZ bz O O (v:=am r11) O<|aK<|goZ hrg<|hQ _ h
 exact kZ<|aj<|mvZ (ak q) O<|mvZ (ak p) O<|ac<|clZ O<|od h λr12 r13 h=>mvZ (.tuple [ak r12,aY 82 r13]) O<|ac<|ar (v:=ak r12) O O O<|ac<|ar (v:=aY 82 r13) O O O<|asZ (ak r12) O<|asZ (aY 82 r13) O<|aU<|mvZ (.bool r3) O<|mvZ (ak r12) O<|mvZ (ak den) O<|ac<|clZ O<|dk h λr14 h=>ac<|ay (aZ 4 O) aS dZ O (w:=am r14) O O O (v:=am r14) O aV<|aE<|bc (aZ 4 O) aS dZ bz O O (v:=am r14) O<|aK<|goZ hrg<|hQ _ h
theorem sf {a:GRat} {Q:GRat->Prop} (h:l5 a Q) (hQ:∀r1,Q r1->R (am r1) S) :
  Ctr prog 173 [am a] S R:=by
 refine aI func173 rfl ntmps173 results173 krZ (λrg hrg=>?_)
 exact aj<|wZ rg<|bC (v:=am a) O O (kk:=3) O dZ (λg1=>wZ rg<|aW bF dh (kk:=3) O (λg2=>aU<|ac<|aw (aZ 1 O) aS dZ bz O O (v:=am a) O<|ac<|clZ O<|c7 h λr r1 r2 h=>mvZ (.tuple [.bool r,ak r1,ak r2]) O<|ac<|ar (v:=.bool r) O O O<|ac<|ar (v:=ak r1) O O O<|ac<|ar (v:=ak r2) O O O<|asZ (.bool r) O<|asZ (ak r1) O<|asZ (ak r2) O<|aU<|mvZ (.bool r) O<|ac<|gK O<|mvZ (ak r1) O<|mvZ (ak r2) O<|ac<|clZ O<|dk h λr3 h=>ac<|ay (aZ 2 O) aS dZ O (w:=am r3) O O O (v:=am r3) O aV<|aE<|bc (aZ 2 O) aS dZ bz O O (v:=am r3) O<|aK<|goZ hrg<|hQ _ h))
theorem il {a:GRat} {b:GRat} {Q:GRat->Prop} (h:d8 a b Q) (hQ:∀r1,Q r1->R (am r1) S) :
  Ctr prog 98 [am a,am b] S R:=by
 refine aI func98 rfl ntmps98 results98 krZ (λrg hrg=>?_)
 refine aj<|wZ rg<|bC (v:=am a) O O (kk:=3) O dZ (λg1=>wZ rg<|bC (v:=am b) O O (kk:=3) O dZ (λg2=>wZ rg<|aW bF dh (kk:=3) O (λg3=>nZ<|qZ ?_)))
 obtain⟨r,hc,h⟩:=h
 obtain⟨r1,hc1,h⟩:=h
 exact Vc.drawn' bA rg (fH [(2,pc (am r)),(3,pc (am r1))]) krZ<|dL (E:=([(rg,2)],[])) O O zSm (cfn) (aw (aZ 2 O) aS dZ bz O O (v:=am a) O<|dL (E:=([(rg,3)],[])) O O zSm (cfa zAp<|cfn) (aw (aZ 3 O) aS dZ bz O O (v:=am b) O<|dC (vs:=[am b]) O (vZ<|vn) (λ_=>sf hc (λ_ hr=>⟨by rw[hr],rfl⟩)) O<|dC (vs:=[am a,am r]) O (vZ<|vZ<|vn) (λ_=>io hc1 (λ_ hr=>⟨by rw[hr],rfl⟩)) O<|dL (E:=([],[(rg,4)])) O O zSm (cfo krZ<|cfo krZ<|cfn) (ay (aZ 4 O) aS dZ O (w:=am r1) O O O (v:=am r1) O aV<|dN<|uZ<|bc (aZ 4 O) aS dZ bz O O (v:=am r1) O<|aK<|goZ hrg<|hQ _ h)))
theorem qT {n:Int} {Q:List Int->Prop} (h:kH n Q) (hQ:∀r1,Q r1->R (ak r1) S) :
  Ctr prog 195 [iZ n] S R:=by
 refine aI func195 rfl ntmps195 results195 krZ (λrg hrg=>?_)
 refine aj<|asZ .nil O<|nZ<|qZ<|aj<|mvZ (iZ n) O<|ac<|bK O O<|nZ<|cZ h O (λhb h=>?_) (λhb h=>?_)
 ·exact aj<|wZ rg<|bq bi dJ cH (es:=[.int .u32 0,.int .u32 2147483648]) O (kk:=1) O O O O O O (λg1=>asZ (.sl 1 rg 5 g1 0<|[0,2147483648].length) O<|aE<|aC (v:=.sl 1 rg 5 g1 0 ([0,2147483648].length)) O<|aK<|br (k:=5) (xs:=List.map (AV.int .u32) [0,2147483648]) O (v':=ak [0,2147483648]) (bk O)<|goZ hrg<|hQ _ h)
 exact kZ<|aj<|mvZ (iZ n) O<|mvZ (iZ n) O<|tkZ h (λhg h=>ac<|GK O hg<|ac<|zh O O<|ac<|clZ O<|oT h λr h=>asZ (ak r) O<|aE<|gv1 hrg<|hQ _ h)
theorem gt {n:Int} {Q:GRat->Prop} (h:dU n Q) (hQ:∀r1,Q r1->R (am r1) S) :
  Ctr prog 120 [iZ n] S R:=by
 refine aI func120 rfl ntmps120 results120 krZ (λrg hrg=>?_)
 exact aj<|wZ rg<|aW bF dh (kk:=3) O (λg1=>aU<|mvZ (iZ n) O<|ac<|bj O O<|mvZ (iZ n) O<|ac<|clZ O<|qT h λr h=>ac<|clZ O<|jQ h λr1 h=>ac<|clZ O<|dk h λr2 h=>ac<|ay (aZ 2 O) aS dZ O (w:=am r2) O O O (v:=am r2) O aV<|aE<|bc (aZ 2 O) aS dZ bz O O (v:=am r2) O<|aK<|goZ hrg<|hQ _ h)
end Go.Proofs.YtnjgdkfhgmebjaaGreat
namespace Go.Proofs.YtnjgdkfhgmebjaaGreat
open Go.Gg Tryz
set_option maxRecDepth 100000
variable {S:St} {R:AV->St->Prop}
theorem o9 {a:List Int} {b:List Int} {Q:Bool->Prop} (h:lG a b Q) (hQ:∀r1,Q r1->R (AV.bool r1) S) :
  Ctr prog 101 [ak a,ak b] S R:=by
 refine aI func101 rfl ntmps101 results101 krZ (λrg hrg=>?_)
 refine aj<|asZ (.bool false) O<|nZ<|qZ<|aj<|mvZ (ak a) O<|ac<|aJ bi O<|mvZ (ak b) O<|ac<|aJ bi O<|ac<|c8 O O<|nZ<|cZ h O (λhb h=>?_) (λhb h=>?_)
 ·exact aj<|asZ (.bool false) O<|aE<|gv1 hrg<|hQ _ h
 refine kZ<|qZ<|aj<|mvZ (ak a) O<|ac<|aJ bi O<|mvZ (iZ 0) O<|nZ<|bZ<|lpZ h (λy=>ba [(0,ak a),(1,ak b),(12,iZ (a.length:Int)),(13,iZ y)]) (λy=>stL S rg []) (canon (aP<|fn)<|sn) (λx _ h=>aj<|ac<|bj O O<|nZ<|qZ<|cZ h O (λhb1 h=>?_) (λhb1 h=>?_))
 ·refine kZ<|qZ<|bZ<|aj<|mvZ (iZ x) O<|asZ (iZ x) O<|nZ<|qZ<|tkZ h (λhg h=>tkZ h (λhg1 h=>Vc.drawn' bA rg (λ_=>fS) krZ<|dP O O<|aA (v:=ak a) O<|dP O O<|aA (v:=iZ x) O<|dP O O<|aQ bi bn dZ (λ_=>O) O O hg<|dP O O<|aL bn dv O O (v:=.int .u32 (at' a x)) O<|dP O O<|aA (v:=ak b) O<|dP O O<|aA (v:=iZ x) O<|dP O O<|aQ bi bn dZ (λ_=>O) O O hg1<|dP O O<|aL bn dv O O (v:=.int .u32 (at' b x)) O<|dP O O<|c8 O O<|dN<|cZ h O (λhb2 h=>?_) (λhb2 h=>?_)))
  ·exact aj<|asZ (.bool false) O<|aE<|gv1 hrg<|hQ _ h
  exact kZ<|rZ<|tkZ h (λhg2 h=>ac<|aG O O hg2<|mvZ (iZ<|x+1) O<|nZ<|⟨(x+1),(canon (aP<|fn)<|sn),h⟩)
 exact xsZ<|aj<|asZ (.bool true) O<|aE<|gv1 hrg<|hQ _ h
theorem n7 {a:GRat} {b:GRat} {Q:Bool->Prop} (h:n8 a b Q) (hQ:∀r1,Q r1->R (AV.bool r1) S) :
  Ctr prog 40 [am a,am b] S R:=by
 refine aI func40 rfl ntmps40 results40 krZ (λrg hrg=>?_)
 refine aj<|wZ rg<|bC (v:=am a) O O (kk:=3) O dZ (λg1=>wZ rg<|bC (v:=am b) O O (kk:=3) O dZ (λg2=>asZ (.bool false) O<|aU<|ac<|aF oZ O<|ac<|af (aZ 2 O) sz4 ag4 O O (v:=.bool a.Y) O<|ac<|aF oZ O<|ac<|af (aZ 3 O) sz4 ag4 O O (v:=.bool b.Y) O<|ac<|Af td4 O O<|mvZ (.bool<|a.Y == b.Y) O<|gtZ h O O (λhb h=>?_) (λhb h=>?_)))
 ·refine ac<|aF iC O<|gTZ O O hb<|ac<|af (aZ 2 O) iE jd O O (v:=ak a.J) O<|gTZ O O hb<|ac<|aF iC O<|gTZ O O hb<|ac<|af (aZ 3 O) iE jd O O (v:=ak b.J) O<|gTZ O O hb<|ac<|clZ O<|o9 h λr h=>ac<|be O hb (v:=.bool r) O<|mvZ (.bool r) O<|gtZ h O O (λhb1 h=>?_) (λhb1 h=>?_)
  ·exact ac<|aF jz O<|gTZ O O hb1<|ac<|af (aZ 2 O) iE jd O O (v:=ak a.L) O<|gTZ O O hb1<|ac<|aF jz O<|gTZ O O hb1<|ac<|af (aZ 3 O) iE jd O O (v:=ak b.L) O<|gTZ O O hb1<|ac<|clZ O<|o9 h λr1 h=>ac<|be O hb1 (v:=.bool r1) O<|asZ (.bool r1) O<|aE<|gv1 hrg<|hQ _ h
  exact gFZ O O hb1 O<|gFZ O O hb1 O<|gFZ O O hb1 O<|gFZ O O hb1 O<|ac<|bd O hb1 (v:=.bool false) O<|asZ (.bool false) O<|aE<|gv1 hrg<|hQ _ h
 exact gFZ O O hb O<|gFZ O O hb O<|gFZ O O hb O<|gFZ O O hb O<|ac<|bd O hb (v:=.bool false) O<|mvZ (.bool false) O<|gFZ O O O O<|gFZ O O O O<|gFZ O O O O<|gFZ O O O O<|gFZ O O O O<|ac<|bd O O (v:=.bool false) O<|asZ (.bool false) O<|aE<|gv1 hrg<|hQ _ h
theorem qe {a:List GRat} {b:List GRat} {Q:Bool->Prop} (h:kE a b Q) (hQ:∀r1,Q r1->R (AV.bool r1) S) :
  Ctr prog 22 [eL am a,eL am b] S R:=by
 refine aI func22 rfl ntmps22 results22 krZ (λrg hrg=>?_)
 refine aj<|asZ (.bool false) O<|nZ<|qZ<|aj<|mvZ (eL am a) O<|ac<|aJ dM O<|mvZ (eL am b) O<|ac<|aJ dM O<|ac<|c8 O O<|nZ<|cZ h O (λhb h=>?_) (λhb h=>?_)
 ·exact aj<|asZ (.bool false) O<|aE<|gv1 hrg<|hQ _ h
 refine kZ<|qZ<|aj<|mvZ (eL am a) O<|ac<|aJ dM O<|mvZ (iZ 0) O<|nZ<|bZ<|lpZ h (λy=>ba [(0,eL am a),(1,eL am b),(12,iZ (a.length:Int)),(13,iZ y)]) (λy=>stL S rg []) (canon (aP<|fn)<|sn) (λx _ h=>aj<|ac<|bj O O<|nZ<|qZ<|cZ h O (λhb1 h=>?_) (λhb1 h=>?_))
 ·refine kZ<|qZ<|bZ<|aj<|mvZ (iZ x) O<|asZ (iZ x) O<|nZ<|qZ<|tkZ h (λhg h=>tkZ h (λhg1 h=>?_))
  obtain⟨r,hc,h⟩:=h
  refine Vc.drawn' bA rg (fH [(8,pc (.bool r))]) krZ<|dP O O<|aA (v:=eL am a) O<|dP O O<|aA (v:=iZ x) O<|dP O O<|aQ dM aS dZ (λ_=>O) O O hg<|dP O O<|cn aS dZ bz O O (v:=am (at' a x)) O<|dP O O<|aA (v:=eL am b) O<|dP O O<|aA (v:=iZ x) O<|dP O O<|aQ dM aS dZ (λ_=>O) O O hg1<|dP O O<|cn aS dZ bz O O (v:=am (at' b x)) O<|dC (vs:=[am (at' a x),am (at' b x)]) O (vZ<|vZ<|vn) (λ_=>n7 hc (λ_ hr=>⟨by rw[hr],rfl⟩)) O<|dP O O<|gK O<|dN<|cZ h O (λhb2 h=>?_) (λhb2 h=>?_)
  ·exact aj<|asZ (.bool false) O<|aE<|gv1 hrg<|hQ _ h
  exact kZ<|rZ<|tkZ h (λhg2 h=>ac<|aG O O hg2<|mvZ (iZ<|x+1) O<|nZ<|⟨(x+1),(canon (aP<|fn)<|sn),h⟩)
 exact xsZ<|aj<|asZ (.bool true) O<|aE<|gv1 hrg<|hQ _ h
theorem im {a:GRat} {b:GRat} {Q:GRat->Prop} (h:dl a b Q) (hQ:∀r1,Q r1->R (am r1) S) :
  Ctr prog 121 [am a,am b] S R:=by
 refine aI func121 rfl ntmps121 results121 krZ (λrg hrg=>?_)
 exact aj<|wZ rg<|bC (v:=am a) O O (kk:=3) O dZ (λg1=>wZ rg<|bC (v:=am b) O O (kk:=3) O dZ (λg2=>wZ rg<|aW bF dh (kk:=3) O (λg3=>aU<|ac<|aw (aZ 2 O) aS dZ bz O O (v:=am a) O<|ac<|clZ O<|c7 h λr r1 r2 h=>mvZ (.tuple [.bool r,ak r1,ak r2]) O<|ac<|ar (v:=.bool r) O O O<|ac<|ar (v:=ak r1) O O O<|ac<|ar (v:=ak r2) O O O<|asZ (.bool r) O<|asZ (ak r1) O<|asZ (ak r2) O<|aU<|ac<|aw (aZ 3 O) aS dZ bz O O (v:=am b) O<|ac<|clZ O<|c7 h λr3 r4 r5 h=>mvZ (.tuple [.bool r3,ak r4,ak r5]) O<|ac<|ar (v:=.bool r3) O O O<|ac<|ar (v:=ak r4) O O O<|ac<|ar (v:=ak r5) O O O<|asZ (.bool r3) O<|asZ (ak r4) O<|asZ (ak r5) O<|aU<|mvZ (.bool r) O<|mvZ (.bool r3) O<|ac<|uY td4 O O<|mvZ (ak r1) O<|mvZ (ak r4) O<|ac<|clZ O<|eF h λr6 h=>mvZ (ak r2) O<|mvZ (ak r5) O<|ac<|clZ O<|eF h λr7 h=>ac<|clZ O<|dk h λr8 h=>ac<|ay (aZ 4 O) aS dZ O (w:=am r8) O O O (v:=am r8) O aV<|aE<|bc (aZ 4 O) aS dZ bz O O (v:=am r8) O<|aK<|goZ hrg<|hQ _ h)))
theorem jr {a:GRat} {Q:Bool->Prop} (h:gr a Q) (hQ:∀r1,Q r1->R (AV.bool r1) S) :
  Ctr prog 118 [am a] S R:=by
 refine aI func118 rfl ntmps118 results118 krZ (λrg hrg=>?_)
 refine aj<|wZ rg<|bC (v:=am a) O O (kk:=3) O dZ (λg1=>asZ (.bool false) O<|aU<|ac<|aw (aZ 1 O) aS dZ bz O O (v:=am a) O<|ac<|clZ O<|lZ h λr h=>mvZ (.bool r) O<|gtZ h O O (λhb h=>?_) (λhb h=>?_))
 ·refine ac<|aF oZ O<|gTZ O O hb<|ac<|af (aZ 1 O) sz4 ag4 O O (v:=.bool a.Y) O<|gTZ O O hb<|ac<|gK O<|ac<|be O hb (v:=.bool (!a.Y)) O<|mvZ (.bool<|!a.Y) O<|gtZ h O O (λhb1 h=>?_) (λhb1 h=>?_)
  ·exact ac<|aF iC O<|gTZ O O hb1<|ac<|af (aZ 1 O) iE jd O O (v:=ak a.J) O<|gTZ O O hb1<|ac<|aF jz O<|gTZ O O hb1<|ac<|af (aZ 1 O) iE jd O O (v:=ak a.L) O<|gTZ O O hb1<|ac<|clZ O<|gy h λr1 h=>gTZ O O hb1<|ac<|ta O O<|ac<|be O hb1 (v:=.bool (decide<|r1<=0)) O (asZ (.bool<|decide<|r1<=0) O<|aE<|gv1 hrg<|hQ _ h)
  exact gFZ O O hb1 O<|gFZ O O hb1 O<|gFZ O O hb1 O<|gFZ O O hb1 O<|gFZ O O hb1 O<|ac<|bd O hb1 (v:=.bool false) O<|asZ (.bool false) O<|aE<|gv1 hrg<|hQ _ h
 exact gFZ O O hb O<|gFZ O O hb O<|ac<|bd O hb (v:=.bool false) O<|mvZ (.bool false) O<|gFZ O O O O<|gFZ O O O O<|gFZ O O O O<|gFZ O O O O<|gFZ O O O O<|gFZ O O O O<|ac<|bd O O (v:=.bool false) O<|asZ (.bool false) O<|aE<|gv1 hrg<|hQ _ h
theorem fL {neg:Bool} {num:List Int} {den:List Int} {Q:GRat->Int->Prop} (h:eM neg num den Q) (hQ:∀r1 r2,Q r1 r2->R (.tuple [am r1,iZ r2]) S) :
  Ctr prog 113 [AV.bool neg,ak num,ak den] S R:=by
 refine aI func113 rfl ntmps113 results113 krZ (λrg hrg=>?_)
 refine aj<|wZ rg<|aW bF dh (kk:=3) O (λg1=>asZ (iZ 0) O<|nZ<|qZ<|aj<|mvZ (ak den) O<|ac<|clZ O<|lX h λr h=>ac<|bK O O<|nZ<|cZ h O (λhb h=>?_) (λhb h=>?_))
 ·exact aj<|ac<|bG nK bF li kX aS (ps:=[]) O O (v:=.agg [.bool false,.nil,.nil]) O<|ac<|ay (aZ 6 O) aS dZ O (w:=.agg [.bool false,.nil,.nil]) O O O (v:=.agg [.bool false,.nil,.nil]) O aV<|asZ (iZ 8) O<|aE<|bc (aZ 6 O) aS dZ bz O O (v:=.agg [.bool false,.nil,.nil]) O<|aC (v:=iZ 8) O<|aK<|aO hrg (VW.tupL<|vl' (VW.aggL<|vZ<|vl' (VW.nilL)<|vl' (VW.nilL)<|vn)<|vZ<|vn)<|hQ _ _ h
 refine kZ<|qZ<|aj<|mvZ (ak num) O<|ac<|clZ O<|lX h λr1 h=>ac<|bK O O<|nZ<|cZ h O (λhb1 h=>?_) (λhb1 h=>?_)
 ·exact aj<|ac<|bG nK bF li kX aS (ps:=[]) O O (v:=.agg [.bool false,.nil,.nil]) O<|ac<|ay (aZ 6 O) aS dZ O (w:=.agg [.bool false,.nil,.nil]) O O O (v:=.agg [.bool false,.nil,.nil]) O aV<|asZ (iZ 0) O<|aE<|bc (aZ 6 O) aS dZ bz O O (v:=.agg [.bool false,.nil,.nil]) O<|aC (v:=iZ 0) O<|aK<|aO hrg (VW.tupL<|vl' (VW.aggL<|vZ<|vl' (VW.nilL)<|vl' (VW.nilL)<|vn)<|vZ<|vn)<|hQ _ _ h
 exact kZ<|aj<|mvZ (ak num) O<|mvZ (ak den) O<|ac<|clZ O<|pZ h λg2 h=>asZ (ak g2) O<|aU<|mvZ (ak num) O<|mvZ (ak g2) O<|ac<|clZ O<|mY h λr2 r3 r4 h=>mvZ (.tuple [ak r2,ak r3,iZ r4]) O<|ac<|ar (v:=ak r2) O O O<|ac<|ar (v:=ak r3) O O O<|ac<|ar (v:=iZ r4) O O O<|asZ (ak r2) O<|asZ (ak r3) O<|asZ (iZ r4) O<|aU<|mvZ (ak den) O<|mvZ (ak g2) O<|ac<|clZ O<|mY h λr5 r6 r7 h=>mvZ (.tuple [ak r5,ak r6,iZ r7]) O<|ac<|ar (v:=ak r5) O O O<|ac<|ar (v:=ak r6) O O O<|ac<|ar (v:=iZ r7) O O O<|asZ (ak r5) O<|asZ (ak r6) O<|asZ (iZ r7) O<|aU<|mvZ (.bool neg) O<|mvZ (ak r2) O<|mvZ (ak r5) O<|ac<|bG nK bF li kX aS (ps:=[(0,.bool neg),(1,ak r2),(2,ak r5)]) O O (v:=.agg [.bool neg,ak r2,ak r5]) O (ac<|ay (aZ 6 O) aS dZ O (w:=.agg [.bool neg,ak r2,ak r5]) O O O (v:=.agg [.bool neg,ak r2,ak r5]) O aV<|asZ (iZ 0) O<|aE<|bc (aZ 6 O) aS dZ bz O O (v:=.agg [.bool neg,ak r2,ak r5]) O<|aC (v:=iZ 0) O<|aK<|aO hrg (VW.tupL<|vZ<|vZ<|vn)<|hQ _ _ h)
theorem oH {n:Int} {Q:List Int->Prop} (h:lk n Q) (hQ:∀r1,Q r1->R (ak r1) S) :
  Ctr prog 235 [iZ n] S R:=by
 refine aI func235 rfl ntmps235 results235 krZ (λrg hrg=>?_)
 refine aj<|asZ .nil O<|aU<|mvZ (iZ n) O<|ac<|bL td3 cL O<|asZ (.int .u64<|IntKind.wrap .u64 n) O<|nZ<|jnZ h (λy=>ba [(3,.int .u64 y)]) (λy=>stL S rg []) (λu h=>?_) (λ_ h=>?_)
 ·exact aj<|mvZ (.int .u64 u) O<|ac<|bL cL cB O<|mvZ (.int .u64 u) O<|ac<|i8 O O dZ<|ac<|bL cL cB O<|wZ rg<|bq bi dJ cH (es:=[.int .u32 (IntKind.wrap .u32 u),.int .u32 (IntKind.wrap .u32<|u / 2^(Int.toNat 32))]) O (kk:=1) O O O O O O (λg1=>asZ (.sl 1 rg 15 g1 0<|[(IntKind.wrap .u32 u),(IntKind.wrap .u32<|u / 2^(Int.toNat 32))].length) O<|aE<|aC (v:=.sl 1 rg 15 g1 0 ([(IntKind.wrap .u32 u),(IntKind.wrap .u32<|u / 2^(Int.toNat 32))].length)) O (aK<|br (k:=15) (xs:=List.map (AV.int .u32) [(IntKind.wrap .u32 u),(IntKind.wrap .u32<|u / 2^(Int.toNat 32))]) O (v':=ak [(IntKind.wrap .u32 u),(IntKind.wrap .u32<|u / 2^(Int.toNat 32))]) (bk O) (goZ hrg<|hQ _ h)))
 refine aj<|mvZ (iZ n) O<|ac<|bj O O<|nZ<|cZ h O (λhb h=>?_) (λhb h=>?_)
 ·exact rZ<|mvZ (.int .u64<|IntKind.wrap .u64 n) O<|ac<|FP O<|stZ h (λu1 hs h=>wZ rg<|a9 (v:=.int .u64 u1) (by subst hs;rfl)<|nZ<|⟨u1,(canon (fZ<|fn)<|sn),h⟩)
 exact kZ<|⟨(IntKind.wrap .u64 n),(canon (fZ<|fn)<|sn),h⟩
theorem oK {n:Int} {d:Int} {Q:GRat->Int->Prop} (h:lq n d Q) (hQ:∀r1 r2,Q r1 r2->R (.tuple [am r1,iZ r2]) S) :
  Ctr prog 150 [iZ n,iZ d] S R:=by
 refine aI func150 rfl ntmps150 results150 krZ (λrg hrg=>?_)
 exact aj<|wZ rg<|aW bF dh (kk:=3) O (λg1=>asZ (iZ 0) O<|aU<|mvZ (iZ n) O<|ac<|bj O O<|mvZ (iZ d) O<|ac<|bj O O<|ac<|uY td4 O O<|mvZ (iZ n) O<|ac<|clZ O<|oH h λr h=>mvZ (iZ d) O<|ac<|clZ O<|oH h λr1 h=>ac<|clZ O<|fL h λr2 r3 h=>ac<|ar (v:=am r2) O O O<|ac<|ar (v:=iZ r3) O O O<|ac<|ay (aZ 4 O) aS dZ O (w:=am r2) O O O (v:=am r2) O aV<|asZ (iZ r3) O<|aE<|bc (aZ 4 O) aS dZ bz O O (v:=am r2) O<|aC (v:=iZ r3) O<|aK<|aO hrg (VW.tupL<|vZ<|vZ<|vn)<|hQ _ _ h)
theorem qQ {n:Int} {Q:GRat->Prop} (h:jP n Q) (hQ:∀r1,Q r1->R (am r1) S) :
  Ctr prog 72 [iZ n] S R:=by
 refine aI func72 rfl ntmps72 results72 krZ (λrg hrg=>?_)
 exact aj<|wZ rg<|aW bF dh (kk:=3) O (λg1=>aU<|mvZ (iZ n) O<|ac<|clZ O<|oK h λr r1 h=>mvZ (.tuple [am r,iZ r1]) O<|ac<|ar (v:=am r) O O O<|ac<|ar (v:=iZ r1) O O O<|wZ rg<|aW bF dh (kk:=3) O (λg2=>ac<|ay (aZ 3 O) aS dZ O (w:=am r) O O O (v:=am r) O aV<|asZ (iZ r1) O<|aU<|ac<|aw (aZ 3 O) aS dZ bz O O (v:=am r) O<|ac<|ay (aZ 2 O) aS dZ O (w:=am r) O O O (v:=am r) O aV<|aE<|bc (aZ 2 O) aS dZ bz O O (v:=am r) O<|aK<|goZ hrg<|hQ _ h))
theorem iN {a:GRat} {Q:Bool->Prop} (h:iH a Q) (hQ:∀r1,Q r1->R (AV.bool r1) S) :
  Ctr prog 117 [am a] S R:=by
 refine aI func117 rfl ntmps117 results117 krZ (λrg hrg=>?_)
 refine aj<|wZ rg<|bC (v:=am a) O O (kk:=3) O dZ (λg1=>asZ (.bool false) O<|nZ<|qZ<|Vc.drawn' bA rg (λ_=>fS) krZ<|dP O O<|aF iC O<|dL (E:=([(rg,1)],[])) O O zSm (cfn) (af (aZ 1 O) iE jd O O (v:=ak a.J) O<|dP O O<|aJ bi O<|dP O O<|aF jz O<|dL (E:=([(rg,1)],[])) O O zSm (cfa zAp<|cfn) (af (aZ 1 O) iE jd O O (v:=ak a.L) O<|dP O O<|aJ bi O<|dP O O<|a9 (v:=iZ (a.J.length:Int)) O<|dP O O<|a9 (v:=iZ (a.L.length:Int)) O<|dN<|qZ<|jgZ (γ:=Nat) h (λy=>ba [(1,.ptr rg 1 y.2 0 0),(3,iZ (a.J.length:Int)),(4,iZ (a.L.length:Int)),(16,.bool y.1)]) (λy=>stL S rg [(1,.arr 3 [am a],y.2)]) (λy h=>?_) (λ_ h=>?_))))
 ·obtain⟨x,g2⟩:=y
  refine cZ h O (λhb h=>?_) (λhb h=>?_)
  ·refine aj<|mvZ (iZ (a.J.length:Int)) O<|ac<|bK O O<|mvZ (.bool<|(a.J.length:Int) == 0) O<|gtZ h O O (λhb1 h=>?_) (λhb1 h=>?_)
   ·refine mvZ (iZ (a.L.length:Int)) O<|gTZ O O hb1<|ac<|bK O O<|ac<|be O hb1 (v:=.bool ((a.L.length:Int) == 0)) O (mvZ (.bool<|(a.L.length:Int) == 0) O<|gtZ h O O (λhb2 h=>?_) (λhb2 h=>?_))
    ·exact ac<|aF oZ O<|gTZ O O hb2<|ac<|af (aZ 1 O) sz4 ag4 O O (v:=.bool a.Y) O<|gTZ O O hb2<|ac<|gK O<|ac<|be O hb2 (v:=.bool (!a.Y)) O<|asZ (.bool<|!a.Y) O<|aE<|gv1 hrg<|hQ _ h
    exact gFZ O O hb2 O<|gFZ O O hb2 O<|ac<|bd O hb2 (v:=.bool false) O<|asZ (.bool false) O<|aE<|gv1 hrg<|hQ _ h
   exact gFZ O O hb1 O<|ac<|bd O hb1 (v:=.bool false) O<|mvZ (.bool false) O<|gFZ O O O O<|gFZ O O O O<|gFZ O O O O<|ac<|bd O O (v:=.bool false) O<|asZ (.bool false) O<|aE<|gv1 hrg<|hQ _ h
  refine kZ<|aj<|ac<|aF iC O<|ac<|af (aZ 1 O) iE jd O O (v:=ak a.J) O<|mvZ (iZ (a.J.length:Int)) O<|tkZ h (λhg h=>ac<|bW O O hg<|tkZ h (λhg1 h=>ac<|aQ bi bn dZ (λ_=>O) O O hg1<|ac<|aL bn dv O O (v:=.int .u32 (at' a.J<|(a.J.length:Int)-1)) O (ac<|c8 O O<|mvZ (.bool<|(at' a.J<|(a.J.length:Int)-1) != 0) O (gtZ h O O (λhb3 h=>?_) (λhb3 h=>?_)))))
  ·refine ac<|aF jz O<|gTZ O O hb3<|ac<|af (aZ 1 O) iE jd O O (v:=ak a.L) O<|gTZ O O hb3<|mvZ (iZ (a.L.length:Int)) O<|gTZ O O hb3<|tkZ h (λhg2 h=>ac<|bW O O hg2<|gTZ O O hb3<|tkZ h (λhg3 h=>ac<|aQ bi bn dZ (λ_=>O) O O hg3<|gTZ O O hb3<|ac<|aL bn dv O O (v:=.int .u32 (at' a.L<|(a.L.length:Int)-1)) O (gTZ O O hb3<|ac<|c8 O O<|ac<|be O hb3 (v:=.bool ((at' a.L<|(a.L.length:Int)-1) != 0)) O (mvZ (.bool<|(at' a.L<|(a.L.length:Int)-1) != 0) O (gtZ h O O (λhb4 h=>?_) (λhb4 h=>?_))))))
   ·exact ac<|aF iC O<|gTZ O O hb4<|ac<|af (aZ 1 O) iE jd O O (v:=ak a.J) O<|gTZ O O hb4<|ac<|aF jz O<|gTZ O O hb4<|ac<|af (aZ 1 O) iE jd O O (v:=ak a.L) O<|gTZ O O hb4<|ac<|clZ O<|pZ h λr h=>gTZ O O hb4<|ac<|clZ O<|lX h λr1 h=>gTZ O O hb4<|ac<|bK O O<|ac<|be O hb4 (v:=.bool (r1 == 1)) O<|asZ (.bool<|r1 == 1) O<|aE<|gv1 hrg<|hQ _ h
   exact gFZ O O hb4 O<|gFZ O O hb4 O<|gFZ O O hb4 O<|gFZ O O hb4 O<|gFZ O O hb4 O<|gFZ O O hb4 O<|ac<|bd O hb4 (v:=.bool false) O<|asZ (.bool false) O<|aE<|gv1 hrg<|hQ _ h
  exact gFZ O O hb3 O<|gFZ O O hb3 O<|gFZ O O hb3 O<|gFZ O O hb3 O<|gFZ O O hb3 O<|gFZ O O hb3 O<|ac<|bd O hb3 (v:=.bool false) O<|mvZ (.bool false) O<|gFZ O O O O<|gFZ O O O O<|gFZ O O O O<|gFZ O O O O<|gFZ O O O O<|gFZ O O O O<|gFZ O O O O<|ac<|bd O O (v:=.bool false) O<|asZ (.bool false) O<|aE<|gv1 hrg<|hQ _ h
 refine rZ<|mvZ (iZ (a.J.length:Int)) O<|ac<|bK O O<|mvZ (.bool<|(a.J.length:Int) == 0) O<|gfZ h O O (λhb5 h=>?_) (λhb5 h=>?_)
 ·exact mvZ (iZ (a.L.length:Int)) O<|gTZ O O hb5<|ac<|bK O O<|ac<|bd O hb5 (v:=.bool ((a.L.length:Int) == 0)) O (nZ<|⟨(((a.L.length:Int) == 0),g1),(canon (aP<|fn)<|sc O<|sn),h⟩)
 exact gFZ O O hb5 O<|ac<|be O hb5 (v:=.bool true) O<|nZ<|⟨(true,g1),(canon (aP<|fn)<|sc O<|sn),h⟩
theorem dt {a:GRat} {Q:Bool->List Int->List Int->Prop} (h:di a Q) (hQ:∀r1 r2 r3,Q r1 r2 r3->R (.tuple [AV.bool r1,ak r2,ak r3]) S) :
  Ctr prog 103 [am a] S R:=by
 refine aI func103 rfl ntmps103 results103 krZ (λrg hrg=>?_)
 refine aj<|wZ rg<|bC (v:=am a) O O (kk:=3) O dZ (λg1=>asZ (.bool false) O<|asZ .nil O<|asZ .nil O<|nZ<|qZ<|jgZ (γ:=Nat) h (λy=>ba [(1,.ptr rg 1 y.2 0 0),(13,.bool y.1)]) (λy=>stL S rg [(1,.arr 3 [am a],y.2)]) (λy h=>?_) (λ_ h=>?_))
 ·obtain⟨x,g2⟩:=y
  refine cZ h O (λhb h=>?_) (λhb h=>?_)
  ·exact aj<|wZ rg<|bq bi dJ cH (es:=[.int .u32 1]) O (kk:=1) O O O O O O (λg3=>asZ (.bool false) O<|asZ .nil O<|asZ (.sl 1 rg 14 g3 0<|[1].length) O<|aE<|aC (v:=.bool false) O<|aC (v:=.nil) O<|aC (v:=.sl 1 rg 14 g3 0 ([1].length)) O<|aK<|br (k:=14) (xs:=List.map (AV.int .u32) [1]) O (v':=.tuple [.bool false,.nil,ak [1]]) (VW.tupL<|vZ<|vZ<|vl' (bk O)<|vn)<|aO hrg (VW.tupL<|vZ<|vl' (VW.nilL)<|vZ<|vn)<|hQ _ _ _ h)
  exact kZ<|qZ<|Vc.drawn' bA rg (λ_=>fS) krZ<|dP O O<|aF oZ O<|dL (E:=([(rg,1)],[])) O O zSm (cfn) (af (aZ 1 O) sz4 ag4 O O (v:=.bool a.Y) O<|dP O O<|aF iC O<|dL (E:=([(rg,1)],[])) O O zSm (cfa zAp<|cfn) (af (aZ 1 O) iE jd O O (v:=ak a.J) O<|dP O O<|aF jz O<|dL (E:=([(rg,1)],[])) O O zSm (cfa zAp<|cfa zAp<|cfn) (af (aZ 1 O) iE jd O O (v:=ak a.L) O<|dP O O<|a9 (v:=.bool a.Y) O<|dP O O<|a9 (v:=ak a.J) O<|dP O O<|a9 (v:=ak a.L) O<|dN<|uZ<|aC (v:=.bool a.Y) O<|aC (v:=ak a.J) O<|aC (v:=ak a.L) O<|aK<|aO hrg (VW.tupL<|vZ<|vZ<|vZ<|vn)<|hQ _ _ _ h)))
 refine rZ<|ac<|aw (aZ 1 O) aS dZ bz O O (v:=am a) O<|ac<|clZ O<|iN h λr h=>ac<|gK O<|mvZ (.bool<|!r) O<|gfZ h O O (λhb1 h=>?_) (λhb1 h=>?_)
 ·exact ac<|aF iC O<|gTZ O O hb1<|ac<|af (aZ 1 O) iE jd O O (v:=ak a.J) O<|gTZ O O hb1<|ac<|aJ bi O<|gTZ O O hb1<|ac<|bK O O<|ac<|bd O hb1 (v:=.bool ((a.J.length:Int) == 0)) O (nZ<|⟨(((a.J.length:Int) == 0),g1),(canon (fZ<|fZ<|fn)<|sc O<|sn),h⟩)
 exact gFZ O O hb1 O<|gFZ O O hb1 O<|gFZ O O hb1 O<|ac<|be O hb1 (v:=.bool true) O<|nZ<|⟨(true,g1),(canon (fZ<|fZ<|fn)<|sc O<|sn),h⟩
theorem lW {a:GRat} {Q:Int->Prop} (h:ii a Q) (hQ:∀r1,Q r1->R (iZ r1) S) :
  Ctr prog 43 [am a] S R:=by
 refine aI func43 rfl ntmps43 results43 krZ (λrg hrg=>?_)
 refine aj<|wZ rg<|bC (v:=am a) O O (kk:=3) O dZ (λg1=>asZ (iZ 0) O<|aU<|ac<|aw (aZ 1 O) aS dZ bz O O (v:=am a) O<|ac<|clZ O<|dt h λr r1 r2 h=>mvZ (.tuple [.bool r,ak r1,ak r2]) O<|ac<|ar (v:=.bool r) O O O<|ac<|ar (v:=ak r1) O O O<|ac<|ar (v:=ak r2) O O O<|asZ (.bool r) O<|asZ (ak r1) O<|asZ (ak r2) O<|nZ<|qZ<|aj<|mvZ (ak r1) O<|ac<|aJ bi O<|ac<|bK O O<|nZ<|cZ h O (λhb h=>?_) (λhb h=>?_))
 ·exact aj<|asZ (iZ 0) O<|aE<|gv1 hrg<|hQ _ h
 refine kZ<|qZ<|aj<|mvZ (.bool r) O<|nZ<|cZ h O (λhb1 h=>?_) (λhb1 h=>?_)
 ·exact aj<|asZ (iZ<|-1) O<|aE<|gv1 hrg<|hQ _ h
 exact kZ<|aj<|asZ (iZ 1) O<|aE<|gv1 hrg<|hQ _ h
theorem wx {a:GRat} {b:GRat} {Q:GRat->Prop} (h:oL a b Q) (hQ:∀r1,Q r1->R (am r1) S) :
  Ctr prog 50 [am a,am b] S R:=by
 refine aI func50 rfl ntmps50 results50 krZ (λrg hrg=>?_)
 refine aj<|wZ rg<|bC (v:=am a) O O (kk:=3) O dZ (λg1=>wZ rg<|bC (v:=am b) O O (kk:=3) O dZ (λg2=>wZ rg<|aW bF dh (kk:=3) O (λg3=>aU<|ac<|aw (aZ 2 O) aS dZ bz O O (v:=am a) O<|ac<|clZ O<|dt h λr r1 r2 h=>mvZ (.tuple [.bool r,ak r1,ak r2]) O<|ac<|ar (v:=.bool r) O O O<|ac<|ar (v:=ak r1) O O O<|ac<|ar (v:=ak r2) O O O<|asZ (.bool r) O<|asZ (ak r1) O<|asZ (ak r2) O<|aU<|ac<|aw (aZ 3 O) aS dZ bz O O (v:=am b) O<|ac<|clZ O<|dt h λr3 r4 r5 h=>mvZ (.tuple [.bool r3,ak r4,ak r5]) O<|ac<|ar (v:=.bool r3) O O O<|ac<|ar (v:=ak r4) O O O<|ac<|ar (v:=ak r5) O O O<|asZ (.bool r3) O<|asZ (ak r4) O<|asZ (ak r5) O<|aU<|mvZ (ak r1) O<|mvZ (ak r5) O<|ac<|clZ O<|eS h λx h=>mvZ (ak r4) O<|mvZ (ak r2) O<|ac<|clZ O<|eS h λy1 h=>mvZ (ak r2) O<|mvZ (ak r5) O<|ac<|clZ O<|eS h λden h=>asZ (ak x) O<|asZ (ak y1) O<|asZ (ak den) O<|nZ<|qZ<|aj<|mvZ (.bool r) O<|mvZ (.bool r3) O<|ac<|Af td4 O O<|nZ<|cZ h O (λhb h=>?_) (λhb h=>?_))))
 ·exact aj<|mvZ (.bool r) O<|mvZ (ak x) O<|mvZ (ak y1) O<|ac<|clZ O<|wy h λr6 h=>mvZ (ak den) O<|ac<|clZ O<|fL h λr7 r8 h=>mvZ (.tuple [am r7,iZ r8]) O<|ac<|ar (v:=am r7) O O O<|ac<|ar (v:=iZ r8) O O O<|wZ rg<|aW bF dh (kk:=3) O (λg4=>ac<|ay (aZ 14 O) aS dZ O (w:=am r7) O O O (v:=am r7) O aV<|asZ (iZ r8) O<|aU<|ac<|aw (aZ 14 O) aS dZ bz O O (v:=am r7) O<|ac<|ay (aZ 4 O) aS dZ O (w:=am r7) O O O (v:=am r7) O aV<|aE<|bc (aZ 4 O) aS dZ bz O O (v:=am r7) O<|aK<|goZ hrg<|hQ _ h)
 refine kZ<|jgZ (γ:=Nat) h (λy=>ba [(4,.ptr rg 4 y.2 0 0),(5,.bool y.1.1),(11,ak y.1.2.1),(12,ak y.1.2.2),(13,ak den)]) (λy=>stL S rg [(4,.arr 3 [.agg [.bool false,.nil,.nil]],y.2)]) (λy h=>?_) (λ_ h=>?_)
 ·obtain⟨⟨s,x1,y2⟩,g5⟩:=y
  exact aj<|mvZ (ak x1) O<|mvZ (ak y2) O<|ac<|clZ O<|mX h λr9 r10 h=>mvZ (.tuple [ak r9,iZ r10]) O<|ac<|ar (v:=ak r9) O O O<|ac<|ar (v:=iZ r10) O O O<|asZ (ak r9) O<|asZ (iZ r10) O<|aU<|mvZ (.bool s) O<|mvZ (ak r9) O<|mvZ (ak den) O<|ac<|clZ O<|fL h λr11 r12 h=>mvZ (.tuple [am r11,iZ r12]) O<|ac<|ar (v:=am r11) O O O<|ac<|ar (v:=iZ r12) O O O<|wZ rg<|aW bF dh (kk:=3) O (λg6=>ac<|ay (aZ 18 O) aS dZ O (w:=am r11) O O O (v:=am r11) O aV<|asZ (iZ r12) O<|aU<|ac<|aw (aZ 18 O) aS dZ bz O O (v:=am r11) O<|ac<|ay (aZ 4 O) aS dZ O (w:=am r11) O O O (v:=am r11) O aV<|aE<|bc (aZ 4 O) aS dZ bz O O (v:=am r11) O<|aK<|goZ hrg<|hQ _ h)
 refine aj<|mvZ (ak x) O<|mvZ (ak y1) O<|ac<|clZ O<|mZ h λr13 h=>ac<|bj O O<|nZ<|cZ h O (λhb1 h=>?_) (λhb1 h=>?_)
 ·exact rZ<|mvZ (.bool r3) O<|mvZ (ak y1) O<|mvZ (ak x) O<|asZ (.bool r3) O<|asZ (ak y1) O<|asZ (ak x) O<|nZ<|⟨((r3,y1,x),g3),(canon (aP<|fZ<|fn)<|sc O<|sn),h⟩
 exact kZ<|⟨((r,x,y1),g3),(canon (aP<|fZ<|fn)<|sc O<|sn),h⟩
theorem wu {a:GRat} {Q:GRat->Prop} (h:oJ a Q) (hQ:∀r1,Q r1->R (am r1) S) :
  Ctr prog 100 [am a] S R:=by
 refine aI func100 rfl ntmps100 results100 krZ (λrg hrg=>?_)
 exact aj<|wZ rg<|bC (v:=am a) O O (kk:=3) O dZ (λg1=>wZ rg<|aW bF dh (kk:=3) O (λg2=>aU<|ac<|aw (aZ 1 O) aS dZ bz O O (v:=am a) O<|ac<|clZ O<|dt h λr r1 r2 h=>mvZ (.tuple [.bool r,ak r1,ak r2]) O<|ac<|ar (v:=.bool r) O O O<|ac<|ar (v:=ak r1) O O O<|ac<|ar (v:=ak r2) O O O<|asZ (.bool r) O<|asZ (ak r1) O<|asZ (ak r2) O<|aU<|mvZ (.bool r) O<|ac<|gK O<|mvZ (ak r1) O<|mvZ (ak r2) O<|ac<|clZ O<|fL h λr3 r4 h=>mvZ (.tuple [am r3,iZ r4]) O<|ac<|ar (v:=am r3) O O O<|ac<|ar (v:=iZ r4) O O O<|wZ rg<|aW bF dh (kk:=3) O (λg3=>ac<|ay (aZ 6 O) aS dZ O (w:=am r3) O O O (v:=am r3) O aV<|asZ (iZ r4) O<|aU<|ac<|aw (aZ 6 O) aS dZ bz O O (v:=am r3) O<|ac<|ay (aZ 2 O) aS dZ O (w:=am r3) O O O (v:=am r3) O aV<|aE<|bc (aZ 2 O) aS dZ bz O O (v:=am r3) O<|aK<|goZ hrg<|hQ _ h)))
theorem mW {a:GRat} {b:GRat} {Q:GRat->Prop} (h:gS a b Q) (hQ:∀r1,Q r1->R (am r1) S) :
  Ctr prog 38 [am a,am b] S R:=by
 refine aI func38 rfl ntmps38 results38 krZ (λrg hrg=>?_)
 refine aj<|wZ rg<|bC (v:=am a) O O (kk:=3) O dZ (λg1=>wZ rg<|bC (v:=am b) O O (kk:=3) O dZ (λg2=>wZ rg<|aW bF dh (kk:=3) O (λg3=>nZ<|qZ ?_)))
 obtain⟨r,hc,h⟩:=h
 obtain⟨r1,hc1,h⟩:=h
 exact Vc.drawn' bA rg (fH [(2,pc (am r)),(3,pc (am r1))]) krZ<|dL (E:=([(rg,2)],[])) O O zSm (cfn) (aw (aZ 2 O) aS dZ bz O O (v:=am a) O<|dL (E:=([(rg,3)],[])) O O zSm (cfa zAp<|cfn) (aw (aZ 3 O) aS dZ bz O O (v:=am b) O<|dC (vs:=[am b]) O (vZ<|vn) (λ_=>wu hc (λ_ hr=>⟨by rw[hr],rfl⟩)) O<|dC (vs:=[am a,am r]) O (vZ<|vZ<|vn) (λ_=>wx hc1 (λ_ hr=>⟨by rw[hr],rfl⟩)) O<|dL (E:=([],[(rg,4)])) O O zSm (cfo krZ<|cfo krZ<|cfn) (ay (aZ 4 O) aS dZ O (w:=am r1) O O O (v:=am r1) O aV<|dN<|uZ<|bc (aZ 4 O) aS dZ bz O O (v:=am r1) O<|aK<|goZ hrg<|hQ _ h)))
theorem pY {a:GRat} {b:GRat} {Q:Int->Prop} (h:i5 a b Q) (hQ:∀r1,Q r1->R (iZ r1) S) :
  Ctr prog 44 [am a,am b] S R:=by
 refine aI func44 rfl ntmps44 results44 krZ (λrg hrg=>?_)
 exact aj<|wZ rg<|bC (v:=am a) O O (kk:=3) O dZ (λg1=>wZ rg<|bC (v:=am b) O O (kk:=3) O dZ (λg2=>asZ (iZ 0) O<|aU<|ac<|aw (aZ 2 O) aS dZ bz O O (v:=am a) O<|ac<|aw (aZ 3 O) aS dZ bz O O (v:=am b) O<|ac<|clZ O<|mW h λr h=>ac<|clZ O<|lW h λr1 h=>asZ (iZ r1) O<|aE<|gv1 hrg<|hQ _ h))
theorem oI {a:GRat} {Q:Bool->Prop} (h:lm a Q) (hQ:∀r1,Q r1->R (AV.bool r1) S) :
  Ctr prog 51 [am a] S R:=by
 refine aI func51 rfl ntmps51 results51 krZ (λrg hrg=>?_)
 refine aj<|wZ rg<|bC (v:=am a) O O (kk:=3) O dZ (λg1=>asZ (.bool false) O<|nZ<|qZ ?_)
 obtain⟨r,hc,h⟩:=h
 refine bcZ h (λhb h=>?_) (λhb h=>?_)
 ·obtain⟨r1,hc1,h⟩:=h
  refine bcZ h (λhb1 h=>?_) (λhb1 h=>?_)
  ·obtain⟨r2,hc2,h⟩:=h
   obtain⟨r3,hc3,h⟩:=h
   exact Vc.drawn' bA rg (fH [(1,pc (.bool r)),(4,pc (iZ r1)),(9,pc (am r2)),(10,pc (iZ r3))]) krZ<|dL (E:=([(rg,1)],[])) O O zSm (cfn) (aw (aZ 1 O) aS dZ bz O O (v:=am a) O<|dC (vs:=[am a]) O (vZ<|vn) (λ_=>iN hc (λ_ hr=>⟨by rw[hr],rfl⟩)) O<|dP O O<|aA (v:=.bool r) O<|dGT O O hb<|dL (E:=([(rg,1)],[])) O O zSm (cfo krZ<|cfn) (aw (aZ 1 O) aS dZ bz O O (v:=am a) O<|dGT O O O<|dC (vs:=[am a]) O (vZ<|vn) (λ_=>lW hc1 (λ_ hr=>⟨by rw[hr],rfl⟩)) O<|dGT O O O<|dP O O<|fB O O<|dP O O<|be O O (v:=.bool (decide<|0<=r1)) O (dP O O<|aA (v:=.bool (decide<|0<=r1)) O (dGT O O hb1<|dL (E:=([(rg,1)],[])) O O zSm (cfo krZ<|cfo krZ<|cfn) (aw (aZ 1 O) aS dZ bz O O (v:=am a) O<|dGT O O O<|dC (vs:=[iZ 1]) O (vZ<|vn) (λ_=>qQ hc2 (λ_ hr=>⟨by rw[hr],rfl⟩)) O<|dGT O O O<|dC (vs:=[am a,am r2]) O (vZ<|vZ<|vn) (λ_=>pY hc3 (λ_ hr=>⟨by rw[hr],rfl⟩)) O<|dGT O O O<|dP O O<|ta O O<|dP O O<|be O O (v:=.bool (decide<|r3<=0)) O (dP O O<|a9 (v:=.bool (decide<|r3<=0)) O (dN<|uZ<|gv1 hrg<|hQ _ h)))))))
  exact Vc.drawn' bA rg (fH [(1,pc (.bool r)),(4,pc (iZ r1))]) krZ<|dL (E:=([(rg,1)],[])) O O zSm (cfn) (aw (aZ 1 O) aS dZ bz O O (v:=am a) O<|dC (vs:=[am a]) O (vZ<|vn) (λ_=>iN hc (λ_ hr=>⟨by rw[hr],rfl⟩)) O<|dP O O<|aA (v:=.bool r) O<|dGT O O hb<|dL (E:=([(rg,1)],[])) O O zSm (cfo krZ<|cfn) (aw (aZ 1 O) aS dZ bz O O (v:=am a) O<|dGT O O O<|dC (vs:=[am a]) O (vZ<|vn) (λ_=>lW hc1 (λ_ hr=>⟨by rw[hr],rfl⟩)) O<|dGT O O O<|dP O O<|fB O O<|dP O O<|be O O (v:=.bool (decide<|0<=r1)) O (dP O O<|aA (v:=.bool (decide<|0<=r1)) O (dGF O O hb1 O<|dGF O O O O<|dGF O O O O<|dGF O O O O<|dP O O<|bd O O (v:=.bool false) O<|dP O O<|a9 (v:=.bool false) O<|dN<|uZ<|gv1 hrg<|hQ _ h))))
 exact Vc.drawn' bA rg (fH [(1,pc (.bool r))]) krZ<|dL (E:=([(rg,1)],[])) O O zSm (cfn) (aw (aZ 1 O) aS dZ bz O O (v:=am a) O<|dC (vs:=[am a]) O (vZ<|vn) (λ_=>iN hc (λ_ hr=>⟨by rw[hr],rfl⟩)) O<|dP O O<|aA (v:=.bool r) O<|dGF O O hb O<|dGF O O O O<|dGF O O O O<|dP O O<|bd O O (v:=.bool false) O<|dP O O<|aA (v:=.bool false) O<|dGF O O O O<|dGF O O O O<|dGF O O O O<|dGF O O O O<|dP O O<|bd O O (v:=.bool false) O<|dP O O<|a9 (v:=.bool false) O<|dN<|uZ<|gv1 hrg<|hQ _ h)
theorem wv {a:GRat} {b:GRat} {Q:GRat->Prop} (h:ko a b Q) (hQ:∀r1,Q r1->R (am r1) S) :
  Ctr prog 124 [am a,am b] S R:=by
 refine aI func124 rfl ntmps124 results124 krZ (λrg hrg=>?_)
 refine aj<|wZ rg<|bC (v:=am a) O O (kk:=3) O dZ (λg1=>wZ rg<|bC (v:=am b) O O (kk:=3) O dZ (λg2=>wZ rg<|aW bF dh (kk:=3) O (λg3=>aU<|ac<|aw (aZ 2 O) aS dZ bz O O (v:=am a) O<|ac<|clZ O<|dt h λr r1 r2 h=>mvZ (.tuple [.bool r,ak r1,ak r2]) O<|ac<|ar (v:=.bool r) O O O<|ac<|ar (v:=ak r1) O O O<|ac<|ar (v:=ak r2) O O O<|asZ (.bool r) O<|asZ (ak r1) O<|asZ (ak r2) O<|aU<|ac<|aw (aZ 3 O) aS dZ bz O O (v:=am b) O<|ac<|clZ O<|dt h λr3 r4 r5 h=>mvZ (.tuple [.bool r3,ak r4,ak r5]) O<|ac<|ar (v:=.bool r3) O O O<|ac<|ar (v:=ak r4) O O O<|ac<|ar (v:=ak r5) O O O<|asZ (.bool r3) O<|asZ (ak r4) O<|asZ (ak r5) O<|aU<|mvZ (.bool r) O<|mvZ (.bool r3) O<|ac<|uY td4 O O<|mvZ (ak r1) O<|mvZ (ak r4) O<|ac<|clZ O<|eS h λr6 h=>mvZ (ak r2) O<|mvZ (ak r5) O<|ac<|clZ O<|eS h λr7 h=>ac<|clZ O<|fL h λr8 r9 h=>mvZ (.tuple [am r8,iZ r9]) O<|ac<|ar (v:=am r8) O O O<|ac<|ar (v:=iZ r9) O O O<|wZ rg<|aW bF dh (kk:=3) O (λg4=>ac<|ay (aZ 11 O) aS dZ O (w:=am r8) O O O (v:=am r8) O aV<|asZ (iZ r9) O<|nZ<|qZ<|rZ ?_))))
 exact ac<|aw (aZ 11 O) aS dZ bz O O (v:=am r8) O<|ac<|ay (aZ 4 O) aS dZ O (w:=am r8) O O O (v:=am r8) O aV<|aE<|bc (aZ 4 O) aS dZ bz O O (v:=am r8) O<|aK<|goZ hrg<|hQ _ h
theorem ww {a:GRat} {b:GRat} {Q:GRat->Int->Prop} (h:kp a b Q) (hQ:∀r1 r2,Q r1 r2->R (.tuple [am r1,iZ r2]) S) :
  Ctr prog 125 [am a,am b] S R:=by
 refine aI func125 rfl ntmps125 results125 krZ (λrg hrg=>?_)
 refine aj<|wZ rg<|bC (v:=am a) O O (kk:=3) O dZ (λg1=>wZ rg<|bC (v:=am b) O O (kk:=3) O dZ (λg2=>wZ rg<|aW bF dh (kk:=3) O (λg3=>asZ (iZ 0) O<|aU<|ac<|aw (aZ 2 O) aS dZ bz O O (v:=am a) O<|ac<|clZ O<|dt h λr r1 r2 h=>mvZ (.tuple [.bool r,ak r1,ak r2]) O<|ac<|ar (v:=.bool r) O O O<|ac<|ar (v:=ak r1) O O O<|ac<|ar (v:=ak r2) O O O<|asZ (.bool r) O<|asZ (ak r1) O<|asZ (ak r2) O<|aU<|ac<|aw (aZ 3 O) aS dZ bz O O (v:=am b) O<|ac<|clZ O<|dt h λr3 r4 r5 h=>mvZ (.tuple [.bool r3,ak r4,ak r5]) O<|ac<|ar (v:=.bool r3) O O O<|ac<|ar (v:=ak r4) O O O<|ac<|ar (v:=ak r5) O O O<|asZ (.bool r3) O<|asZ (ak r4) O<|asZ (ak r5) O<|aU<|mvZ (.bool r) O<|mvZ (.bool r3) O<|ac<|uY td4 O O<|mvZ (ak r1) O<|mvZ (ak r5) O<|ac<|clZ O<|eS h λr6 h=>mvZ (ak r2) O<|mvZ (ak r4) O<|ac<|clZ O<|eS h λr7 h=>ac<|clZ O<|fL h λr8 r9 h=>ac<|ar (v:=am r8) O O O<|ac<|ar (v:=iZ r9) O O O<|ac<|ay (aZ 4 O) aS dZ O (w:=am r8) O O O (v:=am r8) O aV<|asZ (iZ r9) O<|aE<|bc (aZ 4 O) aS dZ bz O O (v:=am r8) O<|aC (v:=iZ r9) O<|aK ?_)))
 exact aO hrg (VW.tupL<|vZ<|vZ<|vn)<|hQ _ _ h
theorem ym {err:Option Int} {Q:Int->Prop} (h:n9 err Q) (hQ:∀r1,Q r1->R (iZ r1) S) :
  Ctr prog 20 [aY 82 err] S R:=by
 refine aI func20 rfl ntmps20 results20 krZ (λrg hrg=>?_)
 refine aj<|asZ (iZ 0) O<|nZ<|qZ<|aj<|mvZ (aY 82 err) O<|ac<|j4 gk (E:=82) O O O<|nZ<|cZ h O (λhb h=>?_) (λhb h=>?_)
 ·exact aj<|asZ (iZ 0) O<|aE<|gv1 hrg<|hQ _ h
 refine kZ<|qZ<|aj<|mvZ (aY 82 err) O<|ac<|B8 gQ Iy Hv O<|mvZ (.tuple [iZ (Option.getD err 0),.bool (Option.isSome err)]) O<|ac<|ar (v:=iZ (Option.getD err 0)) O O O<|ac<|ar (v:=.bool (Option.isSome err)) O O O<|asZ (iZ<|Option.getD err 0) O<|asZ (.bool<|Option.isSome err) O<|aU<|mvZ (.bool<|Option.isSome err) O<|nZ<|cZ h O (λhb1 h=>?_) (λhb1 h=>?_)
 ·exact aj<|mvZ (iZ<|Option.getD err 0) O<|asZ (iZ<|Option.getD err 0) O<|aE<|gv1 hrg<|hQ _ h
 exact kZ<|aj<|asZ (iZ<|-1) O<|aE<|gv1 hrg<|hQ _ h
theorem wL {a:List Int} {b:List Int} {Q:Bool->Prop} (h:pb a b Q) (hQ:∀r1,Q r1->R (AV.bool r1) S) :
  Ctr prog 66 [bt a,bt b] S R:=by
 refine aI func66 rfl ntmps66 results66 krZ (λrg hrg=>?_)
 refine aj<|asZ (.bool false) O<|nZ<|qZ<|aj<|mvZ (bt a) O<|ac<|aJ bJ O<|mvZ (bt b) O<|ac<|aJ bJ O<|ac<|c8 O O<|nZ<|cZ h O (λhb h=>?_) (λhb h=>?_)
 ·exact aj<|asZ (.bool false) O<|aE<|gv1 hrg<|hQ _ h
 refine kZ<|qZ<|aj<|mvZ (bt a) O<|ac<|aJ bJ O<|mvZ (iZ 0) O<|nZ<|bZ<|lpZ h (λy=>ba [(0,bt a),(1,bt b),(12,iZ (a.length:Int)),(13,iZ y)]) (λy=>stL S rg []) (canon (aP<|fn)<|sn) (λx _ h=>aj<|ac<|bj O O<|nZ<|qZ<|cZ h O (λhb1 h=>?_) (λhb1 h=>?_))
 ·refine kZ<|qZ<|bZ<|aj<|mvZ (iZ x) O<|asZ (iZ x) O<|nZ<|qZ<|tkZ h (λhg h=>tkZ h (λhg1 h=>Vc.drawn' bA rg (λ_=>fS) krZ<|dP O O<|aA (v:=bt a) O<|dP O O<|aA (v:=iZ x) O<|dP O O<|aQ bJ sz3 dZ (λ_=>O) O O hg<|dP O O<|aL sz3 ag3 O O (v:=iZ (at' a x)) O<|dP O O<|aA (v:=bt b) O<|dP O O<|aA (v:=iZ x) O<|dP O O<|aQ bJ sz3 dZ (λ_=>O) O O hg1<|dP O O<|aL sz3 ag3 O O (v:=iZ (at' b x)) O<|dP O O<|c8 O O<|dN<|cZ h O (λhb2 h=>?_) (λhb2 h=>?_)))
  ·exact aj<|asZ (.bool false) O<|aE<|gv1 hrg<|hQ _ h
  exact kZ<|rZ<|tkZ h (λhg2 h=>ac<|aG O O hg2<|mvZ (iZ<|x+1) O<|nZ<|⟨(x+1),(canon (aP<|fn)<|sn),h⟩)
 exact xsZ<|aj<|asZ (.bool true) O<|aE<|gv1 hrg<|hQ _ h
end Go.Proofs.YtnjgdkfhgmebjaaGreat
