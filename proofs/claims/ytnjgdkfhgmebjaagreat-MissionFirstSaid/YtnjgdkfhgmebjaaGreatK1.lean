/- Walks of functions. Conditions: none. -/
import Derived.Test.YtnjgdkfhgmebjaaGreatWa
import Derived.Test.YtnjgdkfhgmebjaaGreatGgTy
namespace Go.Proofs.YtnjgdkfhgmebjaaGreat
open Go.Gg
set_option maxRecDepth 100000
variable {S:St} {R:AV->St->Prop}
theorem b8 {a:List Int} {Q:List Int->Prop} (h:ca a Q) (hQ:∀r1,Q r1->R (am r1) S) :
  Ctr Tryz.prog 240 [am a] S R:=by
 refine aH Tryz.func240 rfl Tryz.ntmps240 Tryz.results240 krZ (λrg hrg=>?_)
 refine ah<|asZ .nil O<|aV<|mvZ (am a) O<|ac<|aI bp O<|asZ (iZ (a.length:Int)) O<|nZ<|jnZ h (λy=>a8 [(0,am a),(3,iZ y)]) (λy=>stL S rg []) (λn h=>?_) (λ_ h=>?_)
 ·refine qZ<|ah<|mvZ (iZ n) O<|ac<|bE O O<|nZ<|cZ h O (λhb h=>?_) (λhb h=>?_)
  ·exact ah<|asZ .nil O<|aF<|aE (v:=.nil) O<|aK<|aT hrg (VW.nilL)<|hQ _ h
  exact kZ<|ah<|wZ rg<|bq bp dK cK (es:=[]) O (kk:=1) O O O O O O (λg1=>mvZ (am a) O<|mvZ (iZ n) O<|tkZ h (λhg h=>ac<|gR bp bt dZ (λ_=>O) O (l:=0) (h:=n) O O hg<|tkZ h (λhg1 h=>wZ rg<|cr bp fP dK cK (es:=[]) (xs:=(bH a 0 n)) (enc:=AV.int .u32) (aZ 20 O) lzZ (O) (kk:=1) O O (λ_=>O) (λ_=>O) hg1 O (λ_=>aS) (λg2=>asZ (.sl 1 rg 20 g2 0<|([]++(bH a 0 n)).length) O<|aF<|aE (v:=.sl 1 rg 20 g2 0 (([]++(bH a 0 n)).length)) O (aK<|br (k:=20) (xs:=List.map (AV.int .u32) ([]++(bH a 0 n))) O (v':=am ([]++(bH a 0 n))) (be O) (goZ hrg<|hQ _ h))))))
 refine bZ<|lpZ h (λy=>a8 [(0,am a),(3,iZ y)]) (λy=>stL S rg []) (canon (fZ<|fZ<|fn)<|sn) (λn1 _ h=>qZ<|ah<|mvZ (iZ n1) O<|ac<|dm O O<|mvZ (.bool<|decide<|0<n1) O<|gtZ h O O (λhb1 h=>?_) (λhb1 h=>?_))
 ·refine mvZ (am a) O<|gTZ O O hb1<|mvZ (iZ n1) O<|gTZ O O hb1<|tkZ h (λhg2 h=>ac<|bQ O O hg2<|gTZ O O hb1<|tkZ h (λhg3 h=>ac<|aQ bp bt dZ (λ_=>O) O O hg3<|gTZ O O hb1<|ac<|aG bt dv O O (v:=.int .u32 (at' a<|n1-1)) O (gTZ O O hb1<|ac<|bE O O<|ac<|bf O hb1 (v:=.bool ((at' a<|n1-1) == 0)) O (nZ<|cZ h O (λhb2 h=>?_) (λhb2 h=>?_)))))
  ·exact kZ<|bZ<|rZ<|mvZ (iZ n1) O<|tkZ h (λhg4 h=>ac<|bQ O O hg4<|asZ (iZ<|n1-1) O<|nZ<|⟨(n1-1),(canon (fZ<|fZ<|fn)<|sn),h⟩)
  exact xsZ<|⟨n1,(canon (fZ<|fZ<|fn)<|sn),h⟩
 exact gFZ O O hb1 O<|gFZ O O hb1 O<|gFZ O O hb1 O<|gFZ O O hb1 O<|gFZ O O hb1 O<|ac<|ba O hb1 (v:=.bool false) O<|nZ<|cFZ O O<|xsZ<|⟨n1,(canon (fZ<|fZ<|fn)<|sn),h⟩
theorem gi {a:List Int} {b:List Int} {Q:Int->Prop} (h:dQ a b Q) (hQ:∀r1,Q r1->R (iZ r1) S) :
  Ctr Tryz.prog 167 [am a,am b] S R:=by
 refine aH Tryz.func167 rfl Tryz.ntmps167 Tryz.results167 krZ (λrg hrg=>?_)
 refine ah<|asZ (iZ 0) O<|aV<|mvZ (am a) O<|ac<|clZ O<|b8 h λa1 h=>mvZ (am b) O<|ac<|clZ O<|b8 h λb1 h=>asZ (am a1) O<|asZ (am b1) O<|nZ<|qZ<|ah<|mvZ (am a1) O<|ac<|aI bp O<|mvZ (am b1) O<|ac<|aI bp O<|ac<|de O O<|nZ<|cZ h O (λhb h=>?_) (λhb h=>?_)
 ·refine qZ<|ah<|mvZ (am a1) O<|ac<|aI bp O<|mvZ (am b1) O<|ac<|aI bp O<|ac<|bg O O<|nZ<|cZ h O (λhb1 h=>?_) (λhb1 h=>?_)
  ·exact ah<|asZ (iZ<|-1) O<|aF<|gv1 hrg<|hQ _ h
  exact kZ<|ah<|asZ (iZ 1) O<|aF<|gv1 hrg<|hQ _ h
 refine kZ<|qZ<|ah<|mvZ (am a1) O<|ac<|aI bp O<|tkZ h (λhg h=>ac<|bQ O O hg<|asZ (iZ<|(a1.length:Int)-1) O<|nZ<|bZ<|lpZ h (λy=>a8 [(0,am a1),(1,am b1),(5,iZ y)]) (λy=>stL S rg []) (canon (fZ<|fZ<|fZ<|fn)<|sn) (λi _ h=>qZ<|ah<|mvZ (iZ i) O<|ac<|fk O O<|nZ<|cZ h O (λhb2 h=>?_) (λhb2 h=>?_)))
 ·refine kZ<|qZ<|bZ<|qZ<|qZ<|tkZ h (λhg1 h=>tkZ h (λhg2 h=>Vc.drawn' bC rg (λ_=>fz) krZ<|dP O O<|aA (v:=am a1) O<|dP O O<|aA (v:=iZ i) O<|dP O O<|aQ bp bt dZ (λ_=>O) O O hg1<|dP O O<|aG bt dv O O (v:=.int .u32 (at' a1 i)) O<|dP O O<|aA (v:=am b1) O<|dP O O<|aA (v:=iZ i) O<|dP O O<|aQ bp bt dZ (λ_=>O) O O hg2<|dP O O<|aG bt dv O O (v:=.int .u32 (at' b1 i)) O<|dP O O<|bg O O<|dN<|cZ h O (λhb3 h=>?_) (λhb3 h=>?_)))
  ·exact ah<|asZ (iZ<|-1) O<|aF<|gv1 hrg<|hQ _ h
  refine kZ<|qZ<|tkZ h (λhg3 h=>tkZ h (λhg4 h=>Vc.drawn' bC rg (λ_=>fz) krZ<|dP O O<|aA (v:=am a1) O<|dP O O<|aA (v:=iZ i) O<|dP O O<|aQ bp bt dZ (λ_=>O) O O hg3<|dP O O<|aG bt dv O O (v:=.int .u32 (at' a1 i)) O<|dP O O<|aA (v:=am b1) O<|dP O O<|aA (v:=iZ i) O<|dP O O<|aQ bp bt dZ (λ_=>O) O O hg4<|dP O O<|aG bt dv O O (v:=.int .u32 (at' b1 i)) O<|dP O O<|dm O O<|dN<|cZ h O (λhb4 h=>?_) (λhb4 h=>?_)))
  ·exact ah<|asZ (iZ 1) O<|aF<|gv1 hrg<|hQ _ h
  exact kZ<|rZ<|mvZ (iZ i) O<|tkZ h (λhg5 h=>ac<|bQ O O hg5<|asZ (iZ<|i-1) O<|nZ<|⟨(i-1),(canon (fZ<|fZ<|fZ<|fn)<|sn),h⟩)
 exact xsZ<|ah<|asZ (iZ 0) O<|aF<|gv1 hrg<|hQ _ h
theorem oZ {n:Int} {Q:List Int->Prop} (h:kR n Q) (hQ:∀r1,Q r1->R (am r1) S) :
  Ctr Tryz.prog 261 [iZ n] S R:=by
 refine aH Tryz.func261 rfl Tryz.ntmps261 Tryz.results261 krZ (λrg hrg=>?_)
 refine ah<|asZ .nil O<|nZ<|qZ<|ah<|mvZ (iZ n) O<|ac<|oU O O<|nZ<|cZ h O (λhb h=>?_) (λhb h=>?_)
 ·exact ah<|asZ .nil O<|aF<|aE (v:=.nil) O<|aK<|aT hrg (VW.nilL)<|hQ _ h
 exact kZ<|ah<|mvZ (iZ n) O<|ac<|bR td3 cG O<|mvZ (iZ n) O<|ac<|im O O dZ<|ac<|bR td3 cG O<|wZ rg<|bq bp dK cK (es:=[.int .u32 (IntKind.wrap .u32 n),.int .u32 (IntKind.wrap .u32<|n / 2^(Int.toNat 32))]) O (kk:=1) O O O O O O (λg1=>d6 (bo (k:=10) (xs:=List.map (AV.int .u32) [(IntKind.wrap .u32 n),(IntKind.wrap .u32<|n / 2^(Int.toNat 32))]) O (es:=[(10,am [(IntKind.wrap .u32 n),(IntKind.wrap .u32<|n / 2^(Int.toNat 32))])]) (fc (be O)<|fn) (m:=[]) (sn)) (ac<|clZ O<|b8 h λr h=>asZ (am r) O<|aF<|gv1 hrg<|hQ _ h))
theorem rx {a:List Int} {b:Int} {Q:List Int->Int->Prop} (h:iL a b Q) (hQ:∀r1 r2,Q r1 r2->R (.tuple [am r1,AV.int .u32 r2]) S) :
  Ctr Tryz.prog 307 [am a,AV.int .u32 b] S R:=by
 refine aH Tryz.func307 rfl Tryz.ntmps307 Tryz.results307 krZ (λrg hrg=>?_)
 refine ah<|asZ .nil O<|asZ (.int .u32 0) O<|aV<|mvZ (am a) O<|ac<|aI bp O<|tkZ h (λhg h=>wZ rg<|fK bp fP dK (enc:=AV.int .u32) (z':=0) cK (kk:=1) O O O hg (λg1=>asZ (.sl 1 rg 11 g1 0<|Int.toNat (a.length:Int)) O<|aV<|asZ (.int .u64 0) O<|nZ<|qZ<|ah<|mvZ (am a) O<|ac<|aI bp O<|tkZ h (λhg1 h=>ac<|bQ O O hg1<|asZ (iZ<|(a.length:Int)-1) O<|nZ<|bZ<|lpZ h (λy=>a8 [(0,am a),(1,.int .u32 b),(6,.sl 1 rg 11 g1 0 y.2.2.length),(7,.int .u64 y.1),(8,iZ y.2.1)]) (λy=>stL S rg [(11,.arr 1 (List.map (AV.int .u32) y.2.2),g1)]) (canon (fZ<|fZ<|fc (VW.slen lzZ)<|fZ<|fZ<|fn)<|sc O<|sn) (λy _ h=>?_))))
 obtain⟨rest,i,out⟩:=y
 refine qZ<|ah<|mvZ (iZ i) O<|ac<|fk O O<|nZ<|cZ h O (λhb h=>?_) (λhb h=>?_)
 ·exact kZ<|qZ<|bZ<|ah<|mvZ (.int .u64 rest) O<|ac<|oS O O dZ<|mvZ (am a) O<|mvZ (iZ i) O<|tkZ h (λhg2 h=>ac<|aQ bp bt dZ (λ_=>O) O O hg2<|ac<|aG bt dv O O (v:=.int .u32 (at' a i)) O<|ac<|bR cG cN O<|ac<|vt O O<|stZ h (λrest1 hs h=>wZ rg<|aW (v:=.int .u64 rest1) (by subst hs;rfl)<|aV<|mvZ (.sl 1 rg 11 g1 0 out.length) O<|mvZ (iZ i) O<|mvZ (.int .u64 rest1) O<|mvZ (.int .u32 b) O<|ac<|bR cG cN O<|tkZ h (λhg3 h=>ac<|Bd O O hg3<|ac<|bR cN cG O<|tkZ h (λhi h=>ac<|bm bp bt dZ O O hi<|ac<|bF (aZ 11 O) bt dZ (x':=(IntKind.wrap .u32<|IntKind.wrap .u64<|Int.tdiv rest1<|IntKind.wrap .u64 b)) (λ_=>O) O O (bM hi lzZ) O O aS<|nZ<|rZ<|mvZ (.int .u64 rest1) O<|mvZ (.int .u32 b) O<|ac<|bR cG cN O<|tkZ h (λhg4 h=>ac<|y9 O O hg4<|asZ (.int .u64<|Int.tmod rest1<|IntKind.wrap .u64 b) O<|nZ<|rZ<|mvZ (iZ i) O<|tkZ h (λhg5 h=>ac<|bQ O O hg5<|asZ (iZ<|i-1) O<|nZ<|⟨((Int.tmod rest1<|IntKind.wrap .u64 b),(i-1),(bw out i<|IntKind.wrap .u32<|IntKind.wrap .u64<|Int.tdiv rest1<|IntKind.wrap .u64 b)),(canon (fZ<|fZ<|fc (VW.slen lzZ)<|fZ<|fZ<|fn)<|sc O<|sn),h⟩))))))
 exact xsZ<|ah<|mvZ (.sl 1 rg 11 g1 0 out.length) O<|d6 (bo (k:=11) (xs:=List.map (AV.int .u32) out) O (es:=[(7,.int .u64 rest),(39,am out)]) (fZ<|fc (be O)<|fn) (m:=[]) (sn)) (ac<|clZ O<|b8 h λr h=>mvZ (.int .u64 rest) O<|ac<|bR cN cG O<|asZ (am r) O<|asZ (.int .u32<|IntKind.wrap .u32 rest) O<|aF<|aE (v:=am r) O<|aE (v:=.int .u32 (IntKind.wrap .u32 rest)) O<|aK<|aT hrg (VW.tupL<|vZ<|vZ<|vn)<|hQ _ _ h)
theorem kM {x:Int} {Q:Int->Prop} (h:gE x Q) (hQ:∀r1,Q r1->R (iZ r1) S) :
  Ctr Tryz.prog 282 [AV.int .u32 x] S R:=by
 refine aH Tryz.func282 rfl Tryz.ntmps282 Tryz.results282 krZ (λrg hrg=>?_)
 refine ah<|asZ (iZ 0) O<|nZ<|jnZ h (λy=>a8 [(0,.int .u32 y.1),(2,iZ y.2)]) (λy=>stL S rg []) (λy h=>?_) (λ_ h=>?_)
 ·obtain⟨x1,n⟩:=y
  refine jnZ h (λy=>a8 [(0,.int .u32 y.1),(2,iZ y.2)]) (λy=>stL S rg []) (λy h=>?_) (λ_ h=>?_)
  ·obtain⟨x2,n1⟩:=y
   exact ah<|mvZ (iZ n1) O<|mvZ (.int .u32 x2) O<|ac<|bR cG td5 O<|tkZ h (λhg h=>wZ rg<|Dm td9 krZ O hg<|ac<|bR td5 td3 O<|tkZ h (λhg1 h=>ac<|aC O O hg1<|stZ h (λn2 hs h=>wZ rg<|aW (v:=iZ n2) (by subst hs;rfl)<|aF<|gv1 hrg<|hQ _ h)))
  refine ah<|mvZ (.int .u32 x1) O<|ac<|fk O O<|nZ<|cZ h O (λhb h=>?_) (λhb h=>?_)
  ·exact ah<|mvZ (.int .u32 x1) O<|ac<|im O O dZ<|asZ (.int .u32<|x1 / 2^(Int.toNat 8)) O<|nZ<|rZ<|mvZ (iZ n) O<|tkZ h (λhg2 h=>ac<|aC O O hg2<|asZ (iZ<|n+8) O<|nZ<|⟨((x1 / 2^(Int.toNat 8)),(n+8)),(canon (fZ<|fZ<|fn)<|sn),h⟩)
  exact kZ<|⟨(x1,n),(canon (fZ<|fZ<|fn)<|sn),h⟩
 refine ah<|mvZ (.int .u32 x) O<|ac<|fk O O<|nZ<|cZ h O (λhb1 h=>?_) (λhb1 h=>?_)
 ·exact ah<|mvZ (.int .u32 x) O<|ac<|im O O dZ<|asZ (.int .u32<|x / 2^(Int.toNat 16)) O<|nZ<|rZ<|asZ (iZ 16) O<|nZ<|⟨((x / 2^(Int.toNat 16)),16),(canon (fZ<|fZ<|fn)<|sn),h⟩
 exact kZ<|⟨(x,0),(canon (fZ<|fZ<|fn)<|sn),h⟩
theorem kF {x:Int} {Q:Int->Prop} (h:eX x Q) (hQ:∀r1,Q r1->R (iZ r1) S) :
  Ctr Tryz.prog 308 [AV.int .u32 x] S R:=by
 refine aH Tryz.func308 rfl Tryz.ntmps308 Tryz.results308 krZ (λrg hrg=>?_)
 exact ah<|asZ (iZ 0) O<|aV<|mvZ (.int .u32 x) O<|ac<|clZ O<|kM h λr h=>tkZ h (λhg h=>ac<|bQ O O hg<|asZ (iZ<|32-r) O<|aF<|gv1 hrg<|hQ _ h)
theorem sO {a:List Int} {n:Int} {Q:List Int->Prop} (h:eW a n Q) (hQ:∀r1,Q r1->R (am r1) S) :
  Ctr Tryz.prog 309 [am a,iZ n] S R:=by
 refine aH Tryz.func309 rfl Tryz.ntmps309 Tryz.results309 krZ (λrg hrg=>?_)
 refine ah<|asZ .nil O<|aV<|mvZ (am a) O<|ac<|aI bp O<|tkZ h (λhg h=>ac<|aC O O hg<|tkZ h (λhg1 h=>wZ rg<|fK bp fP dK (enc:=AV.int .u32) (z':=0) cK (kk:=1) O O O hg1 (λg1=>asZ (.sl 1 rg 12 g1 0<|Int.toNat<|(a.length:Int)+1) O<|nZ<|qZ<|ah<|mvZ (am a) O<|ac<|aI bp O<|mvZ (iZ 0) O<|nZ<|bZ<|lpZ h (λy=>a8 [(1,iZ n),(5,.sl 1 rg 12 g1 0 y.2.length),(13,am a),(14,iZ (a.length:Int)),(15,iZ y.1)]) (λy=>stL S rg [(12,.arr 1 (List.map (AV.int .u32) y.2),g1)]) (canon (fZ<|fc (VW.slen lzZ)<|fZ<|fZ<|fZ<|fn)<|sc O<|sn) (λy _ h=>?_))))
 obtain⟨x,out⟩:=y
 refine ah<|ac<|bg O O<|nZ<|qZ<|cZ h O (λhb h=>?_) (λhb h=>?_)
 ·refine kZ<|qZ<|bZ<|ah<|mvZ (iZ x) O<|tkZ h (λhg2 h=>ac<|aQ bp bt dZ (λ_=>O) O O hg2<|ac<|aG bt dv O O (v:=.int .u32 (at' a x)) O<|asZ (iZ x) O<|asZ (.int .u32<|at' a x) O<|aV<|mvZ (.int .u32<|at' a x) O<|ac<|bR cG cN O<|mvZ (iZ n) O<|tkZ h (λhg3 h=>ac<|oS O O hg3<|stZ h (λy1 hs h=>wZ rg<|aW (v:=.int .u64 y1) (by subst hs;rfl)<|aV<|mvZ (.sl 1 rg 12 g1 0 out.length) O<|mvZ (iZ x) O<|tkZ h (λhi h=>ac<|bm bp bt dZ O O hi<|ac<|b7 (aZ 12 O) bt dv O (bM hi lzZ) O (v:=.int .u32 (at' out x)) O<|mvZ (.int .u64 y1) O<|ac<|bR cN cG O<|ac<|vt O O<|tkZ h (λhi1 h=>ac<|bm bp bt dZ O O hi1<|ac<|bF (aZ 12 O) bt dZ (x':=(bits .or .u32 (at' out x)<|IntKind.wrap .u32 y1)) (λ_=>O) O O (bM hi1 lzZ) O O aS<|nZ<|rZ<|mvZ (.sl 1 rg 12 g1 0 out.length) O<|mvZ (iZ x) O<|tkZ h (λhg4 h=>ac<|aC O O hg4<|mvZ (.int .u64 y1) O<|ac<|im O O dZ<|ac<|bR cN cG O<|tkZ h (λhi2 h=>ac<|bm bp bt dZ O O hi2<|ac<|bF (aZ 12 O) bt dZ (x':=(IntKind.wrap .u32<|y1 / 2^(Int.toNat 32))) (λ_=>O) O O (bM hi2 lzZ) O O aS<|nZ<|rZ<|tkZ h (λhg5 h=>ac<|aC O O hg5<|mvZ (iZ<|x+1) O<|nZ ?_))))))))
  exact⟨((x+1),(bw (bw out x<|bits .or .u32 (at' out x)<|IntKind.wrap .u32 y1) (x+1)<|IntKind.wrap .u32<|y1 / 2^(Int.toNat 32))),(canon (fZ<|fc (VW.slen lzZ)<|fZ<|fZ<|fZ<|fn)<|sc O<|sn),h⟩
 exact xsZ<|ah<|mvZ (.sl 1 rg 12 g1 0 out.length) O<|asZ (.sl 1 rg 12 g1 0 out.length) O<|aF<|aE (v:=.sl 1 rg 12 g1 0 out.length) O<|aK<|br (k:=12) (xs:=List.map (AV.int .u32) out) O (v':=am out) (be O)<|goZ hrg<|hQ _ h
theorem rz {a:List Int} {n:Int} (q k:Nat) {Q:List Int->Prop} {S:St} {R:AV->St->Prop} (h:eW a n Q) (hQ:∀r1 g,Q r1->R (.sl 1 q k g 0 r1.length) (S.set q k (.arr 1 (List.map (AV.int .u32) r1)) g)) :
  Ctr Tryz.prog 309 [am a,iZ n] S R:=by
 unfold eW at h
 refine aH Tryz.func309 rfl Tryz.ntmps309 Tryz.results309 krZ (λrg hrg=>?_)
 refine ah<|asZ .nil O<|aV<|mvZ (am a) O<|ac<|aI bp O<|tkZ h (λhg h=>ac<|aC O O hg<|tkZ h (λhg1 h=>wZ rg<|fK bp fP dK (enc:=AV.int .u32) (z':=0) cK (kk:=1) O O O hg1 (λg1=>asZ (.sl 1 rg 12 g1 0<|Int.toNat<|(a.length:Int)+1) O<|nZ<|qZ<|ah<|mvZ (am a) O<|ac<|aI bp O<|mvZ (iZ 0) O<|nZ<|bZ<|lpZ h (λy=>a8 [(1,iZ n),(5,.sl 1 rg 12 g1 0 y.2.length),(13,am a),(14,iZ (a.length:Int)),(15,iZ y.1)]) (λy=>stL S rg [(12,.arr 1 (List.map (AV.int .u32) y.2),g1)]) (canon (fZ<|fc (VW.slen lzZ)<|fZ<|fZ<|fZ<|fn)<|sc O<|sn) (λy _ h=>?_))))
 obtain⟨x,out⟩:=y
 refine ah<|ac<|bg O O<|nZ<|qZ<|cZ h O (λhb h=>?_) (λhb h=>?_)
 ·refine kZ<|qZ<|bZ<|ah<|mvZ (iZ x) O<|tkZ h (λhg2 h=>ac<|aQ bp bt dZ (λ_=>O) O O hg2<|ac<|aG bt dv O O (v:=.int .u32 (at' a x)) O<|asZ (iZ x) O<|asZ (.int .u32<|at' a x) O<|aV<|mvZ (.int .u32<|at' a x) O<|ac<|bR cG cN O<|mvZ (iZ n) O<|tkZ h (λhg3 h=>ac<|oS O O hg3<|stZ h (λy1 hs h=>wZ rg<|aW (v:=.int .u64 y1) (by subst hs;rfl)<|aV<|mvZ (.sl 1 rg 12 g1 0 out.length) O<|mvZ (iZ x) O<|tkZ h (λhi h=>ac<|bm bp bt dZ O O hi<|ac<|b7 (aZ 12 O) bt dv O (bM hi lzZ) O (v:=.int .u32 (at' out x)) O<|mvZ (.int .u64 y1) O<|ac<|bR cN cG O<|ac<|vt O O<|tkZ h (λhi1 h=>ac<|bm bp bt dZ O O hi1<|ac<|bF (aZ 12 O) bt dZ (x':=(bits .or .u32 (at' out x)<|IntKind.wrap .u32 y1)) (λ_=>O) O O (bM hi1 lzZ) O O aS<|nZ<|rZ<|mvZ (.sl 1 rg 12 g1 0 out.length) O<|mvZ (iZ x) O<|tkZ h (λhg4 h=>ac<|aC O O hg4<|mvZ (.int .u64 y1) O<|ac<|im O O dZ<|ac<|bR cN cG O<|tkZ h (λhi2 h=>ac<|bm bp bt dZ O O hi2<|ac<|bF (aZ 12 O) bt dZ (x':=(IntKind.wrap .u32<|y1 / 2^(Int.toNat 32))) (λ_=>O) O O (bM hi2 lzZ) O O aS<|nZ<|rZ<|tkZ h (λhg5 h=>ac<|aC O O hg5<|mvZ (iZ<|x+1) O<|nZ ?_))))))))
  exact⟨((x+1),(bw (bw out x<|bits .or .u32 (at' out x)<|IntKind.wrap .u32 y1) (x+1)<|IntKind.wrap .u32<|y1 / 2^(Int.toNat 32))),(canon (fZ<|fc (VW.slen lzZ)<|fZ<|fZ<|fZ<|fn)<|sc O<|sn),h⟩
 refine xsZ<|ah<|mvZ (.sl 1 rg 12 g1 0 out.length) O<|asZ (.sl 1 rg 12 g1 0 out.length) O<|aF<|aE (v:=.sl 1 rg 12 g1 0 out.length) O<|aK ?_
 show fU _ (.sl 1 rg 12 g1 0 out.length) _
 exact xc q k hrg O (λg'=>hQ _ g' h)
theorem df {a:List Int} {i:Int} {Q:Int->Prop} (h:c6 a i Q) (hQ:∀r1,Q r1->R (AV.int .u64 r1) S) :
  Ctr Tryz.prog 244 [am a,iZ i] S R:=by
 refine aH Tryz.func244 rfl Tryz.ntmps244 Tryz.results244 krZ (λrg hrg=>?_)
 refine ah<|asZ (.int .u64 0) O<|nZ<|qZ<|ah<|mvZ (iZ i) O<|mvZ (am a) O<|ac<|aI bp O<|ac<|bg O O<|nZ<|cZ h O (λhb h=>?_) (λhb h=>?_)
 ·exact ah<|mvZ (am a) O<|mvZ (iZ i) O<|tkZ h (λhg h=>ac<|aQ bp bt dZ (λ_=>O) O O hg<|ac<|aG bt dv O O (v:=.int .u32 (at' a i)) O<|ac<|bR cG cN O<|asZ (.int .u64<|IntKind.wrap .u64<|at' a i) O<|aF<|gv1 hrg<|hQ _ h)
 exact kZ<|ah<|asZ (.int .u64 0) O<|aF<|gv1 hrg<|hQ _ h
theorem sN {u:List Int} {uo:Nat} {ul:Nat} {v:List Int} {n:Int} {q0 k0 g0:Nat} {Q:List Int->Bool->Prop} (h:lR u uo ul v n Q) (hQ:∀r1 r2,Q r1 r2->R (AV.bool r2) (stX S [(q0,k0,.arr 1 (List.map (AV.int .u32) r1),g0)])) :
  Ctr Tryz.prog 310 [.sl 1 q0 k0 g0 uo ul,am v,AV.int .u64 n] (stX S [(q0,k0,.arr 1 (List.map (AV.int .u32) u),g0)]) R:=by
 refine aH Tryz.func310 rfl Tryz.ntmps310 Tryz.results310 krZ (λrg hrg=>?_)
 have hdx:DX [(q0,k0,.arr 1 (List.map (AV.int .u32) u),g0)]:=dx1
 have hfr:=λX' e=>bX (S:=S) (rg:=rg) (X:=[(q0,k0,.arr 1 (List.map (AV.int .u32) u),g0)]) (X':=X') e hrg
 have hne0:=aB hdx hrg 0 rfl
 refine ah<|asZ (.bool false) O<|aV<|asZ (.int .u64 0) O<|asZ (.int .u64 0) O<|nZ<|qZ<|ah<|mvZ (.sl 1 q0 k0 g0 uo ul) O<|ac<|fY bp O<|mvZ (iZ 0) O<|nZ<|bZ<|lpZ h (λy=>a8 [(0,.sl 1 q0 k0 g0 uo ul),(1,am v),(2,.int .u64 n),(7,.int .u64 y.1),(8,.int .u64 y.2.1),(12,iZ (ul:Int)),(13,iZ y.2.2.1)]) (λy=>stL (stX S [(q0,k0,.arr 1 (List.map (AV.int .u32) y.2.2.2),g0)]) rg []) (canon (aN<|fZ<|fZ<|fZ<|fn)<|sn) (λy _ h=>?_)
 obtain⟨carry,borrow,x,u1⟩:=y
 refine ah<|ac<|bg O O<|nZ<|qZ<|cZ h O (λhb h=>?_) (λhb h=>?_)
 ·refine kZ<|qZ<|bZ<|ah<|mvZ (iZ x) O<|asZ (iZ x) O<|aV<|mvZ (.int .u64 carry) O<|mvZ (.int .u64 n) O<|mvZ (am v) O<|mvZ (iZ x) O<|ac<|clZ O<|df h λr h=>ac<|y_ O O<|ac<|np O O<|stZ h (λcarry1 hs h=>wZ rg<|aW (v:=.int .u64 carry1) (by subst hs;rfl)<|aV<|mvZ (.sl 1 q0 k0 g0 uo ul) O<|mvZ (iZ x) O<|tkZ h (λhi h=>ac<|rr bp bt dZ O O hi<|tkZ h (λhg h=>ac<|b7 (atX hne0 hdx 0 O) bt dv O (hg) O (v:=.int .u32 (at' u1<|(uo:Int)+x)) O (ac<|bR cG cN O<|mvZ (.int .u64 carry1) O<|ac<|bR cN cG O<|ac<|bR cG cN O<|ac<|qb O O<|mvZ (.int .u64 borrow) O<|ac<|qb O O<|stZ h (λd hs1 h=>wZ rg<|aW (v:=.int .u64 d) (by subst hs1;rfl)<|aV<|mvZ (.sl 1 q0 k0 g0 uo ul) O<|mvZ (iZ x) O<|mvZ (.int .u64 d) O<|ac<|bR cN cG O<|tkZ h (λhi1 h=>ac<|rr bp bt dZ O O hi1<|tkZ h (λhg1 h=>ac<|bF (atX hne0 hdx 0 O) bt dZ (x':=(IntKind.wrap .u32 d)) (λ_=>O) O O (hg1) O O (b6 hne0 hdx 0 O O)<|aV<|mvZ (.int .u64 d) O<|ac<|im O O dZ<|asZ (.int .u64<|d / 2^(Int.toNat 63)) O<|nZ<|rZ<|mvZ (.int .u64 carry1) O<|ac<|im O O dZ<|asZ (.int .u64<|carry1 / 2^(Int.toNat 32)) O<|nZ<|rZ<|tkZ h (λhg2 h=>ac<|aC O O hg2<|mvZ (iZ<|x+1) O<|nZ ?_))))))))
  exact⟨((carry1 / 2^(Int.toNat 32)),(d / 2^(Int.toNat 63)),(x+1),(bw u1 ((uo:Int)+x)<|IntKind.wrap .u32 d)),(canon (aN<|fZ<|fZ<|fZ<|fn)<|sn),h⟩
 exact xsZ<|ah<|mvZ (.int .u64 borrow) O<|ac<|bE O O<|asZ (.bool<|borrow == 1) O<|aF<|gv1 (hfr _ O)<|hQ _ _ h
theorem sP {u:List Int} {uo:Nat} {ul:Nat} {v:List Int} {q0 k0 g0:Nat} {Q:List Int->Prop} (h:lS u uo ul v Q) (hQ:∀r1,Q r1->R (.tuple []) (stX S [(q0,k0,.arr 1 (List.map (AV.int .u32) r1),g0)])) :
  Ctr Tryz.prog 311 [.sl 1 q0 k0 g0 uo ul,am v] (stX S [(q0,k0,.arr 1 (List.map (AV.int .u32) u),g0)]) R:=by
 refine aH Tryz.func311 rfl Tryz.ntmps311 Tryz.results311 krZ (λrg hrg=>?_)
 have hdx:DX [(q0,k0,.arr 1 (List.map (AV.int .u32) u),g0)]:=dx1
 have hfr:=λX' e=>bX (S:=S) (rg:=rg) (X:=[(q0,k0,.arr 1 (List.map (AV.int .u32) u),g0)]) (X':=X') e hrg
 have hne0:=aB hdx hrg 0 rfl
 refine ah<|asZ (.int .u64 0) O<|aV<|mvZ (.sl 1 q0 k0 g0 uo ul) O<|ac<|fY bp O<|mvZ (iZ 0) O<|nZ<|bZ<|lpZ h (λy=>a8 [(0,.sl 1 q0 k0 g0 uo ul),(1,am v),(4,.int .u64 y.1),(7,iZ (ul:Int)),(8,iZ y.2.1)]) (λy=>stL (stX S [(q0,k0,.arr 1 (List.map (AV.int .u32) y.2.2),g0)]) rg []) (canon (aN<|fZ<|fn)<|sn) (λy _ h=>?_)
 obtain⟨carry,x,u1⟩:=y
 refine ah<|ac<|bg O O<|nZ<|qZ<|cZ h O (λhb h=>?_) (λhb h=>?_)
 ·refine kZ<|qZ<|bZ<|ah<|mvZ (iZ x) O<|asZ (iZ x) O<|nZ<|qZ<|tkZ h (λhi h=>tkZ h (λhg h=>?_))
  obtain⟨r,hc,h⟩:=h
  refine Vc.drawn' bC rg (fh [(8,pc (.int .u64 r))]) krZ<|dP O O<|aA (v:=.int .u64 carry) O<|dP O O<|aA (v:=.sl 1 q0 k0 g0 uo ul) O<|dP O O<|aA (v:=iZ x) O<|dP O O<|rr bp bt dZ O O hi<|dL (E:=([(q0,k0)],[])) O O (by simp) (cfn) (b7 (atX hne0 hdx 0 O) bt dv O (hg) O (v:=.int .u32 (at' u1<|(uo:Int)+x)) O (dP O O<|bR cG cN O<|dP O O<|aA (v:=am v) O<|dP O O<|aA (v:=iZ x) O<|dC (vs:=[am v,iZ x]) O (vZ<|vZ<|vn) (λ_=>df hc (λ_ hr=>⟨by rw[hr],rfl⟩)) O<|dP O O<|np O O<|dP O O<|np O O<|dP O O<|aW (v:=.int .u64 (IntKind.wrap .u64<|carry+(IntKind.wrap .u64<|(IntKind.wrap .u64<|at' u1<|(uo:Int)+x)+r))) O (dN<|ah<|mvZ (.sl 1 q0 k0 g0 uo ul) O<|mvZ (iZ x) O<|mvZ (.int .u64<|IntKind.wrap .u64<|carry+(IntKind.wrap .u64<|(IntKind.wrap .u64<|at' u1<|(uo:Int)+x)+r)) O (ac<|bR cN cG O<|tkZ h (λhi1 h=>ac<|rr bp bt dZ O O hi1<|tkZ h (λhg1 h=>ac<|bF (atX hne0 hdx 0 O) bt dZ (x':=(IntKind.wrap .u32<|IntKind.wrap .u64<|carry+(IntKind.wrap .u64<|(IntKind.wrap .u64<|at' u1<|(uo:Int)+x)+r))) (λ_=>O) O O (hg1) O O (b6 hne0 hdx 0 O O)<|nZ<|rZ<|mvZ (.int .u64<|IntKind.wrap .u64<|carry+(IntKind.wrap .u64<|(IntKind.wrap .u64<|at' u1<|(uo:Int)+x)+r)) O (ac<|im O O dZ<|stZ h (λcarry1 hs h=>?_))))))))
  exact wZ rg<|aW (v:=.int .u64 carry1) (by subst hs;rfl)<|nZ<|rZ<|tkZ h (λhg2 h=>ac<|aC O O hg2<|mvZ (iZ<|x+1) O<|nZ<|⟨(carry1,(x+1),(bw u1 ((uo:Int)+x)<|IntKind.wrap .u32<|IntKind.wrap .u64<|carry+(IntKind.wrap .u64<|(IntKind.wrap .u64<|at' u1<|(uo:Int)+x)+r))),(canon (aN<|fZ<|fn)<|sn),h⟩)
 exact xsZ<|gv0 (hfr _ O)<|hQ _ h
theorem ry {a:List Int} {n:Int} {Q:List Int->Prop} (h:iM a n Q) (hQ:∀r1,Q r1->R (am r1) S) :
  Ctr Tryz.prog 312 [am a,iZ n] S R:=by
 refine aH Tryz.func312 rfl Tryz.ntmps312 Tryz.results312 krZ (λrg hrg=>?_)
 refine ah<|asZ .nil O<|aV<|mvZ (am a) O<|ac<|aI bp O<|tkZ h (λhg h=>wZ rg<|fK bp fP dK (enc:=AV.int .u32) (z':=0) cK (kk:=1) O O O hg (λg1=>asZ (.sl 1 rg 9 g1 0<|Int.toNat (a.length:Int)) O<|nZ<|qZ<|ah<|mvZ (am a) O<|ac<|aI bp O<|mvZ (iZ 0) O<|nZ<|bZ<|lpZ h (λy=>a8 [(0,am a),(1,iZ n),(5,.sl 1 rg 9 g1 0 y.2.length),(11,iZ (a.length:Int)),(12,iZ y.1)]) (λy=>stL S rg [(9,.arr 1 (List.map (AV.int .u32) y.2),g1)]) (canon (fZ<|fZ<|fc (VW.slen lzZ)<|fZ<|fZ<|fn)<|sc O<|sn) (λy _ h=>?_)))
 obtain⟨x,out⟩:=y
 refine ah<|ac<|bg O O<|nZ<|qZ<|cZ h O (λhb h=>?_) (λhb h=>?_)
 ·exact kZ<|qZ<|bZ<|ah<|mvZ (iZ x) O<|asZ (iZ x) O<|nZ<|rZ<|mvZ (.sl 1 rg 9 g1 0 out.length) O<|mvZ (iZ x) O<|mvZ (am a) O<|mvZ (iZ x) O<|ac<|clZ O<|df h λr h=>mvZ (am a) O<|mvZ (iZ x) O<|tkZ h (λhg1 h=>ac<|aC O O hg1<|ac<|clZ O<|df h λr1 h=>ac<|oS O O dZ<|ac<|vt O O<|mvZ (iZ n) O<|tkZ h (λhg2 h=>ac<|im O O hg2<|ac<|bR cN cG O<|tkZ h (λhi h=>ac<|bm bp bt dZ O O hi<|ac<|bF (aZ 9 O) bt dZ (x':=(IntKind.wrap .u32<|(bits .or .u64 r<|IntKind.wrap .u64<|r1*2^(Int.toNat 32)) / 2^(Int.toNat n))) (λ_=>O) O O (bM hi lzZ) O O aS<|nZ<|rZ<|tkZ h (λhg3 h=>ac<|aC O O hg3<|mvZ (iZ<|x+1) O<|nZ<|⟨((x+1),(bw out x<|IntKind.wrap .u32<|(bits .or .u64 r<|IntKind.wrap .u64<|r1*2^(Int.toNat 32)) / 2^(Int.toNat n))),(canon (fZ<|fZ<|fc (VW.slen lzZ)<|fZ<|fZ<|fn)<|sc O<|sn),h⟩))))
 exact xsZ<|ah<|mvZ (.sl 1 rg 9 g1 0 out.length) O<|asZ (.sl 1 rg 9 g1 0 out.length) O<|aF<|aE (v:=.sl 1 rg 9 g1 0 out.length) O<|aK<|br (k:=9) (xs:=List.map (AV.int .u32) out) O (v':=am out) (be O)<|goZ hrg<|hQ _ h
theorem kD {a:List Int} {b:List Int} {Q:List Int->List Int->Option Int->Prop} (h:iE a b Q) (hQ:∀r1 r2 r3,Q r1 r2 r3->R (.tuple [am r1,am r2,a9 82 r3]) S) :
  Ctr Tryz.prog 243 [am a,am b] S R:=by
 refine aH Tryz.func243 rfl Tryz.ntmps243 Tryz.results243 krZ (λrg hrg=>?_)
 refine ah<|asZ .nil O<|asZ .nil O<|asZ .niface O<|aV<|mvZ (am a) O<|ac<|clZ O<|b8 h λa1 h=>mvZ (am b) O<|ac<|clZ O<|b8 h λb1 h=>asZ (am a1) O<|asZ (am b1) O<|nZ<|qZ<|ah<|mvZ (am b1) O<|ac<|aI bp O<|ac<|bE O O<|nZ<|cZ h O (λhb h=>?_) (λhb h=>?_)
 ·exact ah<|ac<|cC (by rw[iv];trivial) (v:=iZ 8) O<|asZ .nil O<|asZ .nil O<|asZ (.iface 82<|iZ 8) O<|aF<|aE (v:=.nil) O<|aE (v:=.nil) O<|aE (v:=.iface 82 (iZ 8)) O<|aK<|aT hrg (VW.tupL<|vl' (VW.nilL)<|vl' (VW.nilL)<|vZ<|vn)<|hQ _ _ _ h
 refine kZ<|qZ<|ah<|mvZ (am a1) O<|mvZ (am b1) O<|ac<|clZ O<|gi h λr h=>ac<|bg O O<|nZ<|cZ h O (λhb1 h=>?_) (λhb1 h=>?_)
 ·exact ah<|mvZ (am a1) O<|asZ .nil O<|asZ (am a1) O<|asZ .niface O<|aF<|aE (v:=.nil) O<|aE (v:=am a1) O<|aE (v:=.niface) O<|aK<|aT hrg (VW.tupL<|vl' (VW.nilL)<|vZ<|vZ<|vn)<|hQ _ _ _ h
 refine kZ<|qZ<|ah<|mvZ (am b1) O<|ac<|aI bp O<|ac<|bE O O<|nZ<|cZ h O (λhb2 h=>?_) (λhb2 h=>?_)
 ·exact ah<|mvZ (am a1) O<|mvZ (am b1) O<|tkZ h (λhg h=>ac<|aQ bp bt dZ (λ_=>O) O O hg<|ac<|aG bt dv O O (v:=.int .u32 (at' b1 0)) O<|ac<|clZ O<|rx h λr1 r2 h=>mvZ (.tuple [am r1,.int .u32 r2]) O<|ac<|au (v:=am r1) O O O<|ac<|au (v:=.int .u32 r2) O O O<|asZ (am r1) O<|asZ (.int .u32 r2) O<|aV<|mvZ (am r1) O<|mvZ (.int .u32 r2) O<|ac<|bR cG td3 O<|ac<|clZ O<|oZ h λr3 h=>asZ (am r1) O<|asZ (am r3) O<|asZ .niface O<|aF<|aE (v:=am r1) O<|aE (v:=am r3) O<|aE (v:=.niface) O<|aK<|aT hrg (VW.tupL<|vZ<|vZ<|vZ<|vn)<|hQ _ _ _ h)
 refine kZ<|ah<|mvZ (am b1) O<|mvZ (am b1) O<|ac<|aI bp O<|tkZ h (λhg1 h=>ac<|bQ O O hg1<|tkZ h (λhg2 h=>ac<|aQ bp bt dZ (λ_=>O) O O hg2<|ac<|aG bt dv O O (v:=.int .u32 (at' b1<|(b1.length:Int)-1)) O (ac<|clZ O<|kF h λn h=>asZ (iZ n) O<|aV<|mvZ (am b1) O<|mvZ (iZ n) O<|ac<|clZ O<|sO h λr4 h=>mvZ (am b1) O<|ac<|aI bp O<|tkZ h (λhg3 h=>ac<|gR bp bt dZ (λ_=>O) O (l:=0) (h:=(b1.length:Int)) O O hg3<|stZ h (λv hs h=>wZ rg<|aW (v:=am v) (by subst hs;rfl)<|aV<|mvZ (am a1) O<|mvZ (iZ n) O<|ac<|clZ O<|rz rg 61 h λu g1 h=>co aS<|asZ (.sl 1 rg 61 g1 0 u.length) O<|nZ<|qZ<|tkZ h (λhg4 h=>tkZ h (λhg5 h=>tkZ h (λhg6 h=>tkZ h (λhg7 h=>Vc.drawn' bC rg (λ_=>fz) krZ<|dP O O<|aA (v:=am v) O<|dP O O<|aA (v:=am v) O<|dP O O<|aI bp O<|dP O O<|bQ O O hg4<|dP O O<|aQ bp bt dZ (λ_=>O) O O hg5<|dP O O<|aG bt dv O O (v:=.int .u32 (at' v<|(v.length:Int)-1)) O (dP O O<|bR cG cN O<|dP O O<|aA (v:=am v) O<|dP O O<|aA (v:=am v) O<|dP O O<|aI bp O<|dP O O<|bQ O O hg6<|dP O O<|aQ bp bt dZ (λ_=>O) O O hg7 ?_))))))))))
 refine dP O O<|aG bt dv O O (v:=.int .u32 (at' v<|(v.length:Int)-2)) O (dP O O<|bR cG cN O<|dP O O<|aW (v:=.int .u64 (IntKind.wrap .u64<|at' v<|(v.length:Int)-1)) O (dP O O<|aW (v:=.int .u64 (IntKind.wrap .u64<|at' v<|(v.length:Int)-2)) O (dN<|ah<|mvZ (.sl 1 rg 61 g1 0 u.length) O<|ac<|fY bp O<|mvZ (am v) O<|ac<|aI bp O<|tkZ h (λhg8 h=>ac<|bQ O O hg8<|tkZ h (λhg9 h=>wZ rg<|fK bp fP dK (enc:=AV.int .u32) (z':=0) cK (kk:=1) O O O hg9 (λg2=>asZ (.sl 1 rg 81 g2 0<|Int.toNat<|(u.length:Int)-(v.length:Int)) O<|nZ<|qZ<|ah<|mvZ (.sl 1 rg 81 g2 0<|Int.toNat<|(u.length:Int)-(v.length:Int)) O<|ac<|fY bp O<|tkZ h (λhg10 h=>ac<|bQ O O hg10<|stZ h (λj hs1 h=>wZ rg<|aW (v:=iZ j) (by subst hs1;rfl)<|nZ<|bZ<|lgZ h (g1,g2) (λy=>a8 [(4,.sl 1 rg 81 y.2.2 0 y.1.2.2.length),(9,iZ n),(10,am v),(11,.sl 1 rg 61 y.2.1 0 y.1.2.1.length),(12,.int .u64 (IntKind.wrap .u64<|at' v<|(v.length:Int)-1)),(13,.int .u64 (IntKind.wrap .u64<|at' v<|(v.length:Int)-2)),(14,iZ y.1.1)]) (λy=>stL S rg [(61,.arr 1 (List.map (AV.int .u32) y.1.2.1),y.2.1),(81,.arr 1 (List.map (AV.int .u32) y.1.2.2),y.2.2)]) (canon (fc (VW.slen lzZ)<|aN<|fZ<|fZ<|fn)<|sc O<|sc O<|sn) (λy _ h=>?_)))))))))
 obtain⟨⟨j1,u1,q⟩,⟨g3,g4⟩⟩:=y
 refine qZ<|ah<|mvZ (iZ j1) O<|ac<|fk O O<|nZ<|cZ h O (λhb3 h=>?_) (λhb3 h=>?_)
 ·refine kZ<|qZ<|bZ<|qZ<|tkZ h (λhg11 h=>tkZ h (λhi h=>tkZ h (λhg12 h=>tkZ h (λhg13 h=>tkZ h (λhi1 h=>Vc.drawn' bC rg (λ_=>fz) krZ<|dP O O<|aA (v:=.sl 1 rg 61 g3 0 u1.length) O<|dP O O<|aA (v:=iZ j1) O<|dP O O<|aA (v:=am v) O<|dP O O<|aI bp O<|dP O O<|aC O O hg11<|dP O O<|bm bp bt dZ O O hi<|dL (E:=([(rg,61)],[])) O O (by simp) (cfn) (b7 (aZ 61 O) bt dv O (bM hi lzZ) O (v:=.int .u32 (at' u1<|j1+(v.length:Int))) O (dP O O<|bR cG cN O<|dP O O<|oS O O dZ<|dP O O<|aA (v:=.sl 1 rg 61 g3 0 u1.length) O<|dP O O<|aA (v:=iZ j1) O<|dP O O<|aA (v:=am v) O<|dP O O<|aI bp O<|dP O O<|aC O O hg12<|dP O O<|bQ O O hg13<|dP O O<|bm bp bt dZ O O hi1<|dL (E:=([(rg,61)],[])) O O (by simp) (cfa (by simp[aJ])<|cfn) (b7 (aZ 61 O) bt dv O (bM hi1 lzZ) O (v:=.int .u32 (at' u1<|(j1+(v.length:Int))-1)) O (dP O O<|bR cG cN O<|dP O O<|vt O O<|dP O O<|aW (v:=.int .u64 (bits .or .u64 (IntKind.wrap .u64<|(IntKind.wrap .u64<|at' u1<|j1+(v.length:Int))*2^(Int.toNat 32)) (IntKind.wrap .u64<|at' u1<|(j1+(v.length:Int))-1))) O (dN<|qZ<|tkZ h (λhg14 h=>tkZ h (λhg15 h=>Vc.drawn' bC rg (λ_=>fz) krZ ?_))))))))))))
  refine dP O O<|aA (v:=.int .u64 (bits .or .u64 (IntKind.wrap .u64<|(IntKind.wrap .u64<|at' u1<|j1+(v.length:Int))*2^(Int.toNat 32)) (IntKind.wrap .u64<|at' u1<|(j1+(v.length:Int))-1))) O (dP O O<|aA (v:=.int .u64 (IntKind.wrap .u64<|at' v<|(v.length:Int)-1)) O (dP O O<|Bd O O hg14<|dP O O<|aA (v:=.int .u64 (bits .or .u64 (IntKind.wrap .u64<|(IntKind.wrap .u64<|at' u1<|j1+(v.length:Int))*2^(Int.toNat 32)) (IntKind.wrap .u64<|at' u1<|(j1+(v.length:Int))-1))) O (dP O O<|aA (v:=.int .u64 (IntKind.wrap .u64<|at' v<|(v.length:Int)-1)) O (dP O O<|y9 O O hg15<|dP O O<|aW (v:=.int .u64 (IntKind.wrap .u64<|Int.tdiv (bits .or .u64 (IntKind.wrap .u64<|(IntKind.wrap .u64<|at' u1<|j1+(v.length:Int))*2^(Int.toNat 32)) (IntKind.wrap .u64<|at' u1<|(j1+(v.length:Int))-1)) (IntKind.wrap .u64<|at' v<|(v.length:Int)-1))) O (dP O O<|aW (v:=.int .u64 (Int.tmod (bits .or .u64 (IntKind.wrap .u64<|(IntKind.wrap .u64<|at' u1<|j1+(v.length:Int))*2^(Int.toNat 32)) (IntKind.wrap .u64<|at' u1<|(j1+(v.length:Int))-1)) (IntKind.wrap .u64<|at' v<|(v.length:Int)-1))) O (dN ?_))))))
  refine jgZ (γ:=Nat×Nat) h (λy=>a8 [(4,.sl 1 rg 81 y.2.2 0 q.length),(9,iZ n),(10,am v),(11,.sl 1 rg 61 y.2.1 0 u1.length),(12,.int .u64 (IntKind.wrap .u64<|at' v<|(v.length:Int)-1)),(13,.int .u64 (IntKind.wrap .u64<|at' v<|(v.length:Int)-2)),(14,iZ j1),(16,.int .u64 y.1)]) (λy=>stL S rg [(61,.arr 1 (List.map (AV.int .u32) u1),y.2.1),(81,.arr 1 (List.map (AV.int .u32) q),y.2.2)]) (λy h=>?_) (λ_ h=>?_)
  ·obtain⟨guess,⟨g5,g6⟩⟩:=y
   refine jgZ (γ:=Nat×Nat) h (λy=>a8 [(4,.sl 1 rg 81 y.2.2 0 q.length),(9,iZ n),(10,am v),(11,.sl 1 rg 61 y.2.1 0 y.1.2.length),(12,.int .u64 (IntKind.wrap .u64<|at' v<|(v.length:Int)-1)),(13,.int .u64 (IntKind.wrap .u64<|at' v<|(v.length:Int)-2)),(14,iZ j1),(16,.int .u64 y.1.1)]) (λy=>stL S rg [(61,.arr 1 (List.map (AV.int .u32) y.1.2),y.2.1),(81,.arr 1 (List.map (AV.int .u32) q),y.2.2)]) (λy h=>?_) (λ_ h=>?_)
   ·obtain⟨⟨guess1,u2⟩,⟨g7,g8⟩⟩:=y
    exact rZ<|mvZ (.sl 1 rg 81 g8 0 q.length) O<|mvZ (iZ j1) O<|mvZ (.int .u64 guess1) O<|ac<|bR cN cG O<|tkZ h (λhi2 h=>ac<|bm bp bt dZ O O hi2<|ac<|bF (aZ 81 O) bt dZ (x':=(IntKind.wrap .u32 guess1)) (λ_=>O) O O (bM hi2 lzZ) O O aS<|nZ<|rZ<|mvZ (iZ j1) O<|tkZ h (λhg16 h=>ac<|bQ O O hg16<|asZ (iZ<|j1-1) O<|nZ<|⟨(((j1-1),u2,(bw q j1<|IntKind.wrap .u32 guess1)),(g7,g8)),(canon (fc (VW.slen lzZ)<|aN<|fZ<|fZ<|fn)<|sc O<|sc O<|sn),h⟩))
   refine ah<|mvZ (.sl 1 rg 61 g5 0 u1.length) O<|mvZ (iZ j1) O<|mvZ (iZ j1) O<|mvZ (am v) O<|ac<|aI bp O<|tkZ h (λhg17 h=>ac<|aC O O hg17<|tkZ h (λhg18 h=>ac<|aC O O hg18<|tkZ h (λhsl h=>ac<|y8 bp bt dZ O (l:=j1) (h:=((j1+(v.length:Int))+1)) O O hsl (mvZ (am v) O<|mvZ (.int .u64 guess) O<|ac<|clZ O<|eG (sw<|aZ 61 O)<|sN h λu3 r5 h=>co aS<|tkZ h (λhl h=>nZ<|cZ h O (λhb4 h=>?_) (λhb4 h=>?_))))))
   ·exact ah<|mvZ (.int .u64 guess) O<|ac<|qb O O<|asZ (.int .u64<|IntKind.wrap .u64<|guess-1) O<|nZ<|rZ<|mvZ (.sl 1 rg 61 g5 0 u1.length) O<|mvZ (iZ j1) O<|mvZ (iZ j1) O<|mvZ (am v) O<|ac<|aI bp O<|tkZ h (λhg19 h=>ac<|aC O O hg19<|tkZ h (λhg20 h=>ac<|aC O O hg20<|tkZ h (λhsl1 h=>ac<|y8 bp bt dZ O (l:=j1) (h:=((j1+(v.length:Int))+1)) O O hsl1 (mvZ (am v) O<|ac<|clZ O<|eG (sw<|aZ 61 O)<|sP h λu4 h=>co aS<|tkZ h (λhl1 h=>nZ<|⟨(((IntKind.wrap .u64<|guess-1),u4),(g5,g6)),(canon (fZ<|fZ<|fZ<|fc (VW.slen lzZ)<|aN<|fn)<|sc O<|sc O<|sn),h⟩)))))
   exact kZ<|⟨((guess,u3),(g5,g6)),(canon (fZ<|fZ<|fZ<|fc (VW.slen lzZ)<|aN<|fn)<|sc O<|sc O<|sn),h⟩
  refine bZ<|lgZ h (g3,g4) (λy=>a8 [(4,.sl 1 rg 81 y.2.2 0 q.length),(9,iZ n),(10,am v),(11,.sl 1 rg 61 y.2.1 0 u1.length),(12,.int .u64 (IntKind.wrap .u64<|at' v<|(v.length:Int)-1)),(13,.int .u64 (IntKind.wrap .u64<|at' v<|(v.length:Int)-2)),(14,iZ j1),(16,.int .u64 y.1.1),(17,.int .u64 y.1.2)]) (λy=>stL S rg [(61,.arr 1 (List.map (AV.int .u32) u1),y.2.1),(81,.arr 1 (List.map (AV.int .u32) q),y.2.2)]) (canon (aN<|aN<|fZ<|fn)<|sc O<|sc O<|sn) (λy _ h=>?_)
  obtain⟨⟨guess2,rest⟩,⟨g9,g10⟩⟩:=y
  refine jgZ (γ:=Nat×Nat) h (λy=>a8 [(4,.sl 1 rg 81 y.2.2 0 q.length),(9,iZ n),(10,am v),(11,.sl 1 rg 61 y.2.1 0 u1.length),(12,.int .u64 (IntKind.wrap .u64<|at' v<|(v.length:Int)-1)),(13,.int .u64 (IntKind.wrap .u64<|at' v<|(v.length:Int)-2)),(14,iZ j1),(16,.int .u64 guess2),(17,.int .u64 rest)]) (λy=>stL S rg [(61,.arr 1 (List.map (AV.int .u32) u1),y.2.1),(81,.arr 1 (List.map (AV.int .u32) q),y.2.2)]) (λy h=>?_) (λ_ h=>?_)
  ·obtain⟨_,⟨g11,g12⟩⟩:=y
   refine bZ<|ah<|mvZ (.int .u64 guess2) O<|ac<|qb O O<|asZ (.int .u64<|IntKind.wrap .u64<|guess2-1) O<|aV<|mvZ (.int .u64 rest) O<|mvZ (.int .u64<|IntKind.wrap .u64<|at' v<|(v.length:Int)-1) O<|ac<|np O O<|stZ h (λrest1 hs2 h=>wZ rg<|aW (v:=.int .u64 rest1) (by subst hs2;rfl)<|aV<|mvZ (.int .u64 rest1) O<|ac<|fk O O<|nZ<|cZ h O (λhb5 h=>?_) (λhb5 h=>?_))
   ·exact xnZ O<|zD<|⟨((IntKind.wrap .u64<|guess2-1),(g11,g12)),(canon (aN<|aN<|fn)<|sc O<|sc O<|sn),h⟩
   exact kZ<|⟨(((IntKind.wrap .u64<|guess2-1),rest1),(g11,g12)),(canon (aN<|aN<|fZ<|fn)<|sc O<|sc O<|sn),h⟩
  refine ah<|mvZ (.int .u64 guess2) O<|ac<|fk O O<|mvZ (.bool<|decide<|4294967296<=guess2) O<|gfZ h O O (λhb6 h=>?_) (λhb6 h=>?_)
  ·refine mvZ (.int .u64 guess2) O<|gTZ O O hb6<|mvZ (.int .u64<|IntKind.wrap .u64<|at' v<|(v.length:Int)-2) O<|gTZ O O hb6<|ac<|y_ O O<|gTZ O O hb6<|mvZ (.int .u64 rest) O<|gTZ O O hb6<|ac<|oS O O dZ<|gTZ O O hb6<|mvZ (.sl 1 rg 61 g9 0 u1.length) O<|gTZ O O hb6<|mvZ (iZ j1) O<|gTZ O O hb6<|mvZ (am v) O<|gTZ O O hb6<|ac<|aI bp O<|gTZ O O hb6<|tkZ h (λhg21 h=>ac<|aC O O hg21<|gTZ O O hb6<|tkZ h (λhg22 h=>ac<|bQ O O hg22<|gTZ O O hb6<|tkZ h (λhi3 h=>ac<|bm bp bt dZ O O hi3<|gTZ O O hb6<|ac<|b7 (aZ 61 O) bt dv O (bM hi3 lzZ) O (v:=.int .u32 (at' u1<|(j1+(v.length:Int))-2)) O (gTZ O O hb6<|ac<|bR cG cN O<|gTZ O O hb6<|ac<|vt O O<|gTZ O O hb6<|ac<|dm O O<|ac<|ba O hb6 (v:=.bool (decide<|(bits .or .u64 (IntKind.wrap .u64<|rest*2^(Int.toNat 32))<|IntKind.wrap .u64<|at' u1<|(j1+(v.length:Int))-2)<(IntKind.wrap .u64<|guess2*(IntKind.wrap .u64<|at' v<|(v.length:Int)-2)))) O (nZ<|cZ h O (λhb7 h=>?_) (λhb7 h=>?_))))))
   ·exact kZ<|⟨((),(g9,g10)),(canon (aN<|aN<|fZ<|fn)<|sc O<|sc O<|sn),h⟩
   exact xsZ<|⟨(guess2,(g9,g10)),(canon (aN<|aN<|fn)<|sc O<|sc O<|sn),h⟩
  exact gFZ O O hb6 O<|gFZ O O hb6 O<|gFZ O O hb6 O<|gFZ O O hb6 O<|gFZ O O hb6 O<|gFZ O O hb6 O<|gFZ O O hb6 O<|gFZ O O hb6 O<|gFZ O O hb6 O<|gFZ O O hb6 O<|gFZ O O hb6 O<|gFZ O O hb6 O<|gFZ O O hb6 O<|gFZ O O hb6 O<|gFZ O O hb6 O<|ac<|bf O hb6 (v:=.bool true) O<|nZ<|cTZ O O<|kZ<|⟨((),(g9,g10)),(canon (aN<|aN<|fZ<|fn)<|sc O<|sc O<|sn),h⟩
 exact xsZ<|ah<|mvZ (.sl 1 rg 81 g4 0 q.length) O<|d6 (bo (k:=81) (xs:=List.map (AV.int .u32) q) O (es:=[(9,iZ n),(11,.sl 1 rg 61 g3 0 u1.length),(169,am q)]) (fZ<|fc (eu O)<|fc (be O)<|fn) (m:=[(61,.arr 1 (List.map (AV.int .u32) u1),g3)]) (sc O<|sn)) (ac<|clZ O<|b8 h λq1 h=>mvZ (.sl 1 rg 61 g3 0 u1.length) O<|mvZ (iZ n) O<|d6 (bo (k:=61) (xs:=List.map (AV.int .u32) u1) O (es:=[(170,am q1),(171,am u1),(172,iZ n)]) (fZ<|fc (be O)<|fZ<|fn) (m:=[]) (sn)) (ac<|clZ O<|ry h λr6 h=>ac<|clZ O<|b8 h λr7 h=>asZ (am q1) O<|asZ (am r7) O<|asZ .niface O<|aF<|aE (v:=am q1) O<|aE (v:=am r7) O<|aE (v:=.niface) O<|aK<|aT hrg (VW.tupL<|vZ<|vZ<|vZ<|vn)<|hQ _ _ _ h))
theorem ot {a:List Int} {b:List Int} {Q:List Int->Prop} (h:jX a b Q) (hQ:∀r1,Q r1->R (am r1) S) :
  Ctr Tryz.prog 242 [am a,am b] S R:=by
 refine aH Tryz.func242 rfl Tryz.ntmps242 Tryz.results242 krZ (λrg hrg=>?_)
 refine ah<|asZ .nil O<|aV<|mvZ (am a) O<|ac<|clZ O<|b8 h λa1 h=>mvZ (am b) O<|ac<|clZ O<|b8 h λb1 h=>asZ (am a1) O<|asZ (am b1) O<|nZ<|qZ<|bZ<|lpZ h (λy=>a8 [(0,am y.1),(1,am y.2)]) (λy=>stL S rg []) (canon (fZ<|fZ<|fn)<|sn) (λy _ h=>?_)
 obtain⟨a2,b2⟩:=y
 refine qZ<|ah<|mvZ (am b2) O<|ac<|aI bp O<|ac<|dm O O<|nZ<|cZ h O (λhb h=>?_) (λhb h=>?_)
 ·exact kZ<|bZ<|ah<|mvZ (am a2) O<|mvZ (am b2) O<|ac<|clZ O<|kD h λr r1 r2 h=>mvZ (.tuple [am r,am r1,a9 82 r2]) O<|ac<|au (v:=am r) O O O<|ac<|au (v:=am r1) O O O<|ac<|au (v:=a9 82 r2) O O O<|asZ (am r) O<|asZ (am r1) O<|asZ (a9 82 r2) O<|nZ<|rZ<|mvZ (am b2) O<|mvZ (am r1) O<|asZ (am b2) O<|asZ (am r1) O<|nZ<|⟨(b2,r1),(canon (fZ<|fZ<|fn)<|sn),h⟩
 exact xsZ<|ah<|mvZ (am a2) O<|asZ (am a2) O<|aF<|gv1 hrg<|hQ _ h
theorem gh {a:List Int} {b:List Int} {Q:List Int->Prop} (h:eM a b Q) (hQ:∀r1,Q r1->R (am r1) S) :
  Ctr Tryz.prog 164 [am a,am b] S R:=by
 refine aH Tryz.func164 rfl Tryz.ntmps164 Tryz.results164 krZ (λrg hrg=>?_)
 refine ah<|asZ .nil O<|aV<|mvZ (am a) O<|ac<|aI bp O<|mvZ (am b) O<|ac<|aI bp O<|tkZ h (λhg h=>ac<|aC O O hg<|tkZ h (λhg1 h=>wZ rg<|fK bp fP dK (enc:=AV.int .u32) (z':=0) cK (kk:=1) O O O hg1 (λg1=>asZ (.sl 1 rg 16 g1 0<|Int.toNat<|(a.length:Int)+(b.length:Int)) O (nZ<|qZ<|ah<|mvZ (am a) O<|ac<|aI bp O<|mvZ (iZ 0) O<|nZ<|bZ<|lpZ h (λy=>a8 [(1,am b),(5,.sl 1 rg 16 g1 0 y.2.length),(17,am a),(18,iZ (a.length:Int)),(19,iZ y.1)]) (λy=>stL S rg [(16,.arr 1 (List.map (AV.int .u32) y.2),g1)]) (canon (fZ<|fc (VW.slen lzZ)<|fZ<|fZ<|fZ<|fn)<|sc O<|sn) (λy _ h=>?_)))))
 obtain⟨x,out⟩:=y
 refine ah<|ac<|bg O O<|nZ<|qZ<|cZ h O (λhb h=>?_) (λhb h=>?_)
 ·refine kZ<|qZ<|bZ<|ah<|mvZ (iZ x) O<|tkZ h (λhg2 h=>ac<|aQ bp bt dZ (λ_=>O) O O hg2<|ac<|aG bt dv O O (v:=.int .u32 (at' a x)) O<|asZ (iZ x) O<|asZ (.int .u32<|at' a x) O<|aV<|asZ (.int .u64 0) O<|nZ<|qZ<|ah<|mvZ (am b) O<|ac<|aI bp O<|mvZ (iZ 0) O<|nZ<|bZ<|lpZ h (λy=>a8 [(1,am b),(5,.sl 1 rg 16 g1 0 y.2.2.length),(6,iZ x),(7,.int .u32 (at' a x)),(8,.int .u64 y.1),(17,am a),(18,iZ (a.length:Int)),(19,iZ x),(24,am b),(25,iZ (b.length:Int)),(26,iZ y.2.1)]) (λy=>stL S rg [(16,.arr 1 (List.map (AV.int .u32) y.2.2),g1)]) (canon (aN<|aN<|fZ<|fZ<|fZ<|fn)<|sc O<|sn) (λy _ h=>?_))
  obtain⟨carry,x1,out1⟩:=y
  refine ah<|ac<|bg O O<|nZ<|qZ<|cZ h O (λhb1 h=>?_) (λhb1 h=>?_)
  ·refine kZ<|qZ<|bZ<|ah<|mvZ (iZ x1) O<|tkZ h (λhg3 h=>ac<|aQ bp bt dZ (λ_=>O) O O hg3<|ac<|aG bt dv O O (v:=.int .u32 (at' b x1)) O<|asZ (iZ x1) O<|asZ (.int .u32<|at' b x1) O<|aV<|mvZ (.int .u64 carry) O<|mvZ (.int .u32<|at' a x) O<|ac<|bR cG cN O<|mvZ (.int .u32<|at' b x1) O<|ac<|bR cG cN O<|ac<|y_ O O<|mvZ (.sl 1 rg 16 g1 0 out1.length) O<|mvZ (iZ x) O<|mvZ (iZ x1) O<|tkZ h (λhg4 h=>ac<|aC O O hg4<|tkZ h (λhi h=>ac<|bm bp bt dZ O O hi<|ac<|b7 (aZ 16 O) bt dv O (bM hi lzZ) O (v:=.int .u32 (at' out1<|x+x1)) O (ac<|bR cG cN O<|ac<|np O O<|ac<|np O O<|stZ h (λcarry1 hs h=>wZ rg<|aW (v:=.int .u64 carry1) (by subst hs;rfl)<|aV<|mvZ (.sl 1 rg 16 g1 0 out1.length) O<|mvZ (iZ x) O<|mvZ (iZ x1) O<|tkZ h (λhg5 h=>ac<|aC O O hg5<|mvZ (.int .u64 carry1) O<|ac<|bR cN cG O<|tkZ h (λhi1 h=>ac<|bm bp bt dZ O O hi1<|ac<|bF (aZ 16 O) bt dZ (x':=(IntKind.wrap .u32 carry1)) (λ_=>O) O O (bM hi1 lzZ) O O aS<|nZ<|rZ<|mvZ (.int .u64 carry1) O<|ac<|im O O dZ<|asZ (.int .u64<|carry1 / 2^(Int.toNat 32)) O<|nZ<|rZ<|tkZ h (λhg6 h=>ac<|aC O O hg6<|mvZ (iZ<|x1+1) O<|nZ ?_))))))))
   exact⟨((carry1 / 2^(Int.toNat 32)),(x1+1),(bw out1 (x+x1)<|IntKind.wrap .u32 carry1)),(canon (fZ<|fc (VW.slen lzZ)<|aN<|aN<|fZ<|fn)<|sc O<|sn),h⟩
  exact xsZ<|rZ<|mvZ (.sl 1 rg 16 g1 0 out1.length) O<|mvZ (iZ x) O<|mvZ (am b) O<|ac<|aI bp O<|tkZ h (λhg7 h=>ac<|aC O O hg7<|mvZ (.int .u64 carry) O<|ac<|bR cN cG O<|tkZ h (λhi2 h=>ac<|bm bp bt dZ O O hi2<|ac<|bF (aZ 16 O) bt dZ (x':=(IntKind.wrap .u32 carry)) (λ_=>O) O O (bM hi2 lzZ) O O aS<|nZ<|rZ<|tkZ h (λhg8 h=>ac<|aC O O hg8<|mvZ (iZ<|x+1) O<|nZ<|⟨((x+1),(bw out1 (x+(b.length:Int))<|IntKind.wrap .u32 carry)),(canon (fZ<|fc (VW.slen lzZ)<|fZ<|fZ<|fZ<|fn)<|sc O<|sn),h⟩)))
 exact xsZ<|ah<|mvZ (.sl 1 rg 16 g1 0 out.length) O<|d6 (bo (k:=16) (xs:=List.map (AV.int .u32) out) O (es:=[(65,am out)]) (fc (be O)<|fn) (m:=[])<|sn)<|ac<|clZ O<|b8 h λr h=>asZ (am r) O<|aF<|gv1 hrg<|hQ _ h
theorem sQ {a:List Int} {Q:Int->Prop} (h:lT a Q) (hQ:∀r1,Q r1->R (iZ r1) S) :
  Ctr Tryz.prog 241 [am a] S R:=by
 refine aH Tryz.func241 rfl Tryz.ntmps241 Tryz.results241 krZ (λrg hrg=>?_)
 refine ah<|asZ (iZ 0) O<|nZ<|qZ<|ah<|mvZ (am a) O<|ac<|aI bp O<|tkZ h (λhg h=>ac<|bQ O O hg<|asZ (iZ<|(a.length:Int)-1) O<|nZ<|bZ<|lpZ h (λy=>a8 [(0,am a),(3,iZ y)]) (λy=>stL S rg []) (canon (fZ<|fZ<|fn)<|sn) (λi _ h=>qZ<|ah<|mvZ (iZ i) O<|ac<|fk O O<|nZ<|cZ h O (λhb h=>?_) (λhb h=>?_)))
 ·refine kZ<|qZ<|bZ<|ah<|mvZ (am a) O<|mvZ (iZ i) O<|tkZ h (λhg1 h=>ac<|aQ bp bt dZ (λ_=>O) O O hg1<|ac<|aG bt dv O O (v:=.int .u32 (at' a i)) O<|ac<|de O O<|nZ<|cZ h O (λhb1 h=>?_) (λhb1 h=>?_))
  ·exact ah<|mvZ (iZ i) O<|tkZ h (λhg2 h=>ac<|jJ O O hg2<|mvZ (am a) O<|mvZ (iZ i) O<|tkZ h (λhg3 h=>ac<|aQ bp bt dZ (λ_=>O) O O hg3<|ac<|aG bt dv O O (v:=.int .u32 (at' a i)) O<|ac<|clZ O<|kM h λr h=>tkZ h (λhg4 h=>ac<|aC O O hg4<|asZ (iZ<|(32*i)+r) O<|aF<|gv1 hrg<|hQ _ h)))
  exact kZ<|rZ<|mvZ (iZ i) O<|tkZ h (λhg5 h=>ac<|bQ O O hg5<|asZ (iZ<|i-1) O<|nZ<|⟨(i-1),(canon (fZ<|fZ<|fn)<|sn),h⟩)
 exact xsZ<|ah<|asZ (iZ 0) O<|aF<|gv1 hrg<|hQ _ h
theorem t_ {a:List Int} {b:List Int} {Q:List Int->Prop} (h:jY a b Q) (hQ:∀r1,Q r1->R (am r1) S) :
  Ctr Tryz.prog 166 [am a,am b] S R:=by
 refine aH Tryz.func166 rfl Tryz.ntmps166 Tryz.results166 krZ (λrg hrg=>?_)
 refine ah<|asZ .nil O<|aV<|mvZ (am a) O<|ac<|aI bp O<|mvZ (am b) O<|ac<|aI bp O<|ac<|za O O<|tkZ h (λhg h=>ac<|aC O O hg<|tkZ h (λhg1 h=>wZ rg<|fK bp fP dK (enc:=AV.int .u32) (z':=0) cK (kk:=1) O O O hg1 (λg1=>asZ (.sl 1 rg 14 g1 0<|Int.toNat<|(max (a.length:Int) (b.length:Int))+1) O (aV<|asZ (.int .u64 0) O<|nZ<|qZ<|ah<|mvZ (.sl 1 rg 14 g1 0<|Int.toNat<|(max (a.length:Int) (b.length:Int))+1) O (ac<|fY bp O<|mvZ (iZ 0) O<|nZ<|bZ<|lpZ h (λy=>a8 [(0,am a),(1,am b),(5,.sl 1 rg 14 g1 0 y.2.2.length),(6,.int .u64 y.1),(16,iZ ((Int.toNat<|(max (a.length:Int) (b.length:Int))+1):Int)),(17,iZ y.2.1)]) (λy=>stL S rg [(14,.arr 1 (List.map (AV.int .u32) y.2.2),g1)]) (canon (fZ<|fZ<|fc (VW.slen lzZ)<|fZ<|fZ<|fZ<|fn)<|sc O<|sn) (λy _ h=>?_))))))
 obtain⟨carry,x,out⟩:=y
 refine ah<|ac<|bg O O<|nZ<|qZ<|cZ h O (λhb h=>?_) (λhb h=>?_)
 ·exact kZ<|qZ<|bZ<|ah<|mvZ (iZ x) O<|asZ (iZ x) O<|aV<|mvZ (.int .u64 carry) O<|mvZ (am a) O<|mvZ (iZ x) O<|ac<|clZ O<|df h λr h=>mvZ (am b) O<|mvZ (iZ x) O<|ac<|clZ O<|df h λr1 h=>ac<|np O O<|ac<|np O O<|stZ h (λcarry1 hs h=>wZ rg<|aW (v:=.int .u64 carry1) (by subst hs;rfl)<|aV<|mvZ (.sl 1 rg 14 g1 0 out.length) O<|mvZ (iZ x) O<|mvZ (.int .u64 carry1) O<|ac<|bR cN cG O<|tkZ h (λhi h=>ac<|bm bp bt dZ O O hi<|ac<|bF (aZ 14 O) bt dZ (x':=(IntKind.wrap .u32 carry1)) (λ_=>O) O O (bM hi lzZ) O O aS<|nZ<|rZ<|mvZ (.int .u64 carry1) O<|ac<|im O O dZ<|asZ (.int .u64<|carry1 / 2^(Int.toNat 32)) O<|nZ<|rZ<|tkZ h (λhg2 h=>ac<|aC O O hg2<|mvZ (iZ<|x+1) O<|nZ<|⟨((carry1 / 2^(Int.toNat 32)),(x+1),(bw out x<|IntKind.wrap .u32 carry1)),(canon (fZ<|fZ<|fc (VW.slen lzZ)<|fZ<|fZ<|fZ<|fn)<|sc O<|sn),h⟩)))
 exact xsZ<|ah<|mvZ (.sl 1 rg 14 g1 0 out.length) O<|d6 (bo (k:=14) (xs:=List.map (AV.int .u32) out) O (es:=[(37,am out)]) (fc (be O)<|fn) (m:=[])<|sn)<|ac<|clZ O<|b8 h λr2 h=>asZ (am r2) O<|aF<|gv1 hrg<|hQ _ h
theorem oq {a:List Int} {b:List Int} {Q:List Int->Option Int->Prop} (h:jW a b Q) (hQ:∀r1 r2,Q r1 r2->R (.tuple [am r1,a9 82 r2]) S) :
  Ctr Tryz.prog 168 [am a,am b] S R:=by
 refine aH Tryz.func168 rfl Tryz.ntmps168 Tryz.results168 krZ (λrg hrg=>?_)
 refine ah<|asZ .nil O<|asZ .niface O<|nZ<|qZ<|ah<|mvZ (am a) O<|mvZ (am b) O<|ac<|clZ O<|gi h λr h=>ac<|bg O O<|nZ<|cZ h O (λhb h=>?_) (λhb h=>?_)
 ·exact ah<|ac<|cC (by rw[iv];trivial) (v:=iZ 3) O<|asZ .nil O<|asZ (.iface 82<|iZ 3) O<|aF<|aE (v:=.nil) O<|aE (v:=.iface 82 (iZ 3)) O<|aK<|aT hrg (VW.tupL<|vl' (VW.nilL)<|vZ<|vn)<|hQ _ _ h
 refine kZ<|ah<|mvZ (am a) O<|ac<|aI bp O<|tkZ h (λhg h=>wZ rg<|fK bp fP dK (enc:=AV.int .u32) (z':=0) cK (kk:=1) O O O hg (λg1=>asZ (.sl 1 rg 17 g1 0<|Int.toNat (a.length:Int)) O<|aV<|asZ (.int .u64 0) O<|nZ<|qZ<|ah<|mvZ (.sl 1 rg 17 g1 0<|Int.toNat (a.length:Int)) O<|ac<|fY bp O<|mvZ (iZ 0) O<|nZ<|bZ<|lpZ h (λy=>a8 [(0,am a),(1,am b),(6,.sl 1 rg 17 g1 0 y.2.2.length),(7,.int .u64 y.1),(19,iZ ((Int.toNat (a.length:Int)):Int)),(20,iZ y.2.1)]) (λy=>stL S rg [(17,.arr 1 (List.map (AV.int .u32) y.2.2),g1)]) (canon (fZ<|fZ<|fc (VW.slen lzZ)<|fZ<|fZ<|fZ<|fn)<|sc O<|sn) (λy _ h=>?_)))
 obtain⟨borrow,x,out⟩:=y
 refine ah<|ac<|bg O O<|nZ<|qZ<|cZ h O (λhb1 h=>?_) (λhb1 h=>?_)
 ·exact kZ<|qZ<|bZ<|ah<|mvZ (iZ x) O<|asZ (iZ x) O<|aV<|mvZ (am a) O<|mvZ (iZ x) O<|ac<|clZ O<|df h λr1 h=>mvZ (am b) O<|mvZ (iZ x) O<|ac<|clZ O<|df h λr2 h=>ac<|qb O O<|mvZ (.int .u64 borrow) O<|ac<|qb O O<|stZ h (λd hs h=>wZ rg<|aW (v:=.int .u64 d) (by subst hs;rfl)<|aV<|mvZ (.sl 1 rg 17 g1 0 out.length) O<|mvZ (iZ x) O<|mvZ (.int .u64 d) O<|ac<|bR cN cG O<|tkZ h (λhi h=>ac<|bm bp bt dZ O O hi<|ac<|bF (aZ 17 O) bt dZ (x':=(IntKind.wrap .u32 d)) (λ_=>O) O O (bM hi lzZ) O O aS<|nZ<|rZ<|mvZ (.int .u64 d) O<|ac<|im O O dZ<|asZ (.int .u64<|d / 2^(Int.toNat 63)) O<|nZ<|rZ<|tkZ h (λhg1 h=>ac<|aC O O hg1<|mvZ (iZ<|x+1) O<|nZ<|⟨((d / 2^(Int.toNat 63)),(x+1),(bw out x<|IntKind.wrap .u32 d)),(canon (fZ<|fZ<|fc (VW.slen lzZ)<|fZ<|fZ<|fZ<|fn)<|sc O<|sn),h⟩)))
 exact xsZ<|ah<|mvZ (.sl 1 rg 17 g1 0 out.length) O<|d6 (bo (k:=17) (xs:=List.map (AV.int .u32) out) O (es:=[(40,am out)]) (fc (be O)<|fn) (m:=[])<|sn)<|ac<|clZ O<|b8 h λr3 h=>asZ (am r3) O<|asZ .niface O<|aF<|aE (v:=am r3) O<|aE (v:=.niface) O<|aK<|aT hrg (VW.tupL<|vZ<|vZ<|vn)<|hQ _ _ h
end Go.Proofs.YtnjgdkfhgmebjaaGreat
namespace Go.Proofs.YtnjgdkfhgmebjaaGreat
open Go.Gg
set_option maxRecDepth 100000
variable {S:St} {R:AV->St->Prop}
theorem lM {a:List Int} {Q:Int->Prop} (h:ji a Q) (hQ:∀r1,Q r1->R (iZ r1) S) :
  Ctr Tryz.prog 189 [am a] S R:=by
 refine aH Tryz.func189 rfl Tryz.ntmps189 Tryz.results189 krZ (λrg hrg=>?_)
 refine ah<|asZ (iZ 0) O<|aV<|asZ (iZ 0) O<|nZ<|qZ<|ah<|mvZ (am a) O<|ac<|aI bp O<|mvZ (iZ 0) O<|nZ<|bZ<|lpZ h (λy=>a8 [(3,iZ y.1),(7,am a),(8,iZ (a.length:Int)),(9,iZ y.2)]) (λy=>stL S rg []) (canon (aN<|fn)<|sn) (λy _ h=>?_)
 obtain⟨n,x⟩:=y
 refine ah<|ac<|bg O O<|nZ<|qZ<|cZ h O (λhb h=>?_) (λhb h=>?_)
 ·refine kZ<|qZ<|bZ<|ah<|mvZ (iZ x) O<|tkZ h (λhg h=>ac<|aQ bp bt dZ (λ_=>O) O O hg<|ac<|aG bt dv O O (v:=.int .u32 (at' a x)) O<|asZ (iZ x) O<|asZ (.int .u32<|at' a x) O<|aV<|mvZ (iZ 0) O<|nZ<|bZ<|lpZ h (λy=>a8 [(3,iZ y.1),(4,iZ x),(5,.int .u32 (at' a x)),(7,am a),(8,iZ (a.length:Int)),(9,iZ x),(14,iZ y.2)]) (λy=>stL S rg []) (canon (aN<|fZ<|fZ<|fZ<|fn)<|sn) (λy _ h=>?_))
  obtain⟨n1,x1⟩:=y
  refine ah<|ac<|bg O O<|nZ<|qZ<|cZ h O (λhb1 h=>?_) (λhb1 h=>?_)
  ·refine kZ<|qZ<|bZ<|ah<|mvZ (iZ x1) O<|asZ (iZ x1) O<|aV<|mvZ (.int .u32<|at' a x) O<|mvZ (iZ x1) O<|tkZ h (λhg1 h=>ac<|im O O hg1<|ac<|zd O O<|ac<|bE O O<|nZ<|cZ h O (λhb2 h=>?_) (λhb2 h=>?_))
   ·exact rZ<|mvZ (iZ x) O<|tkZ h (λhg2 h=>ac<|jJ O O hg2<|mvZ (iZ x1) O<|tkZ h (λhg3 h=>ac<|aC O O hg3<|tkZ h (λhg4 h=>ac<|aC O O hg4<|asZ (iZ<|((32*x)+x1)+1) O (nZ<|rZ<|tkZ h (λhg5 h=>ac<|aC O O hg5<|mvZ (iZ<|x1+1) O<|nZ<|⟨((((32*x)+x1)+1),(x1+1)),(canon (aN<|fZ<|fZ<|fZ<|fn)<|sn),h⟩)))))
   exact kZ<|rZ<|tkZ h (λhg6 h=>ac<|aC O O hg6<|mvZ (iZ<|x1+1) O<|nZ<|⟨(n1,(x1+1)),(canon (aN<|fZ<|fZ<|fZ<|fn)<|sn),h⟩)
  exact xsZ<|rZ<|tkZ h (λhg7 h=>ac<|aC O O hg7<|mvZ (iZ<|x+1) O<|nZ<|⟨(n1,(x+1)),(canon (aN<|fn)<|sn),h⟩)
 exact xsZ<|ah<|mvZ (iZ n) O<|asZ (iZ n) O<|aF<|gv1 hrg<|hQ _ h
theorem c5 {a:List Int} {Q:List Int->Prop} (h:c7 a Q) (hQ:∀r1,Q r1->R (am r1) S) :
  Ctr Tryz.prog 188 [am a] S R:=by
 refine aH Tryz.func188 rfl Tryz.ntmps188 Tryz.results188 krZ (λrg hrg=>?_)
 refine ah<|asZ .nil O<|aV<|mvZ (am a) O<|ac<|aI bp O<|asZ (iZ (a.length:Int)) O<|nZ<|jnZ h (λy=>a8 [(0,am a),(3,iZ y)]) (λy=>stL S rg []) (λn h=>?_) (λ_ h=>?_)
 ·exact ah<|wZ rg<|bq bp dK cK (es:=[]) O (kk:=1) O O O O O O (λg1=>mvZ (am a) O<|mvZ (iZ n) O<|tkZ h (λhg h=>ac<|gR bp bt dZ (λ_=>O) O (l:=0) (h:=n) O O hg<|tkZ h (λhg1 h=>wZ rg<|cr bp fP dK cK (es:=[]) (xs:=(bH a 0 n)) (enc:=AV.int .u32) (aZ 18 O) lzZ (O) (kk:=1) O O (λ_=>O) (λ_=>O) hg1 O (λ_=>aS) (λg2=>asZ (.sl 1 rg 18 g2 0<|([]++(bH a 0 n)).length) O<|aF<|aE (v:=.sl 1 rg 18 g2 0 (([]++(bH a 0 n)).length)) O (aK<|br (k:=18) (xs:=List.map (AV.int .u32) ([]++(bH a 0 n))) O (v':=am ([]++(bH a 0 n))) (be O) (goZ hrg<|hQ _ h))))))
 refine bZ<|lpZ h (λy=>a8 [(0,am a),(3,iZ y)]) (λy=>stL S rg []) (canon (fZ<|fZ<|fn)<|sn) (λn1 _ h=>qZ<|ah<|mvZ (iZ n1) O<|ac<|dm O O<|mvZ (.bool<|decide<|0<n1) O<|gtZ h O O (λhb h=>?_) (λhb h=>?_))
 ·refine mvZ (am a) O<|gTZ O O hb<|mvZ (iZ n1) O<|gTZ O O hb<|tkZ h (λhg2 h=>ac<|bQ O O hg2<|gTZ O O hb<|tkZ h (λhg3 h=>ac<|aQ bp bt dZ (λ_=>O) O O hg3<|gTZ O O hb<|ac<|aG bt dv O O (v:=.int .u32 (at' a<|n1-1)) O (gTZ O O hb<|ac<|bE O O<|ac<|bf O hb (v:=.bool ((at' a<|n1-1) == 0)) O (nZ<|cZ h O (λhb1 h=>?_) (λhb1 h=>?_)))))
  ·exact kZ<|bZ<|rZ<|mvZ (iZ n1) O<|tkZ h (λhg4 h=>ac<|bQ O O hg4<|asZ (iZ<|n1-1) O<|nZ<|⟨(n1-1),(canon (fZ<|fZ<|fn)<|sn),h⟩)
  exact xsZ<|⟨n1,(canon (fZ<|fZ<|fn)<|sn),h⟩
 exact gFZ O O hb O<|gFZ O O hb O<|gFZ O O hb O<|gFZ O O hb O<|gFZ O O hb O<|ac<|ba O hb (v:=.bool false) O<|nZ<|cFZ O O<|xsZ<|⟨n1,(canon (fZ<|fZ<|fn)<|sn),h⟩
theorem cn {a:List Int} {i:Int} {Q:Int->Prop} (h:cq a i Q) (hQ:∀r1,Q r1->R (AV.int .u64 r1) S) :
  Ctr Tryz.prog 187 [am a,iZ i] S R:=by
 refine aH Tryz.func187 rfl Tryz.ntmps187 Tryz.results187 krZ (λrg hrg=>?_)
 refine ah<|asZ (.int .u64 0) O<|nZ<|qZ<|ah<|mvZ (iZ i) O<|mvZ (am a) O<|ac<|aI bp O<|ac<|bg O O<|nZ<|cZ h O (λhb h=>?_) (λhb h=>?_)
 ·exact ah<|mvZ (am a) O<|mvZ (iZ i) O<|tkZ h (λhg h=>ac<|aQ bp bt dZ (λ_=>O) O O hg<|ac<|aG bt dv O O (v:=.int .u32 (at' a i)) O<|ac<|bR cG cN O<|asZ (.int .u64<|IntKind.wrap .u64<|at' a i) O<|aF<|gv1 hrg<|hQ _ h)
 exact kZ<|ah<|asZ (.int .u64 0) O<|aF<|gv1 hrg<|hQ _ h
theorem gp {a:List Int} {b:List Int} {Q:List Int->Prop} (h:fx a b Q) (hQ:∀r1,Q r1->R (am r1) S) :
  Ctr Tryz.prog 112 [am a,am b] S R:=by
 refine aH Tryz.func112 rfl Tryz.ntmps112 Tryz.results112 krZ (λrg hrg=>?_)
 refine ah<|asZ .nil O<|aV<|mvZ (am a) O<|ac<|aI bp O<|mvZ (am b) O<|ac<|aI bp O<|tkZ h (λhg h=>ac<|aC O O hg<|tkZ h (λhg1 h=>ac<|aC O O hg1<|tkZ h (λhg2 h=>wZ rg<|fK bp fP dK (enc:=AV.int .u32) (z':=0) cK (kk:=1) O O O hg2 (λg1=>asZ (.sl 1 rg 17 g1 0<|Int.toNat<|((a.length:Int)+(b.length:Int))+1) O (nZ<|qZ<|ah<|mvZ (am a) O<|ac<|aI bp O<|mvZ (iZ 0) O<|nZ<|bZ<|lpZ h (λy=>a8 [(1,am b),(5,.sl 1 rg 17 g1 0 y.2.length),(18,am a),(19,iZ (a.length:Int)),(20,iZ y.1)]) (λy=>stL S rg [(17,.arr 1 (List.map (AV.int .u32) y.2),g1)]) (canon (fZ<|fc (VW.slen lzZ)<|fZ<|fZ<|fZ<|fn)<|sc O<|sn) (λy _ h=>?_))))))
 obtain⟨x,out⟩:=y
 refine ah<|ac<|bg O O<|nZ<|qZ<|cZ h O (λhb h=>?_) (λhb h=>?_)
 ·refine kZ<|qZ<|bZ<|ah<|mvZ (iZ x) O<|tkZ h (λhg3 h=>ac<|aQ bp bt dZ (λ_=>O) O O hg3<|ac<|aG bt dv O O (v:=.int .u32 (at' a x)) O<|asZ (iZ x) O<|asZ (.int .u32<|at' a x) O<|aV<|asZ (.int .u64 0) O<|aV<|mvZ (am b) O<|ac<|aI bp O<|tkZ h (λhg4 h=>ac<|aC O O hg4<|mvZ (iZ 0) O<|nZ<|bZ<|lpZ h (λy=>a8 [(1,am b),(5,.sl 1 rg 17 g1 0 y.2.2.length),(6,iZ x),(7,.int .u32 (at' a x)),(8,.int .u64 y.1),(18,am a),(19,iZ (a.length:Int)),(20,iZ x),(27,iZ ((b.length:Int)+1)),(28,iZ y.2.1)]) (λy=>stL S rg [(17,.arr 1 (List.map (AV.int .u32) y.2.2),g1)]) (canon (aN<|aN<|fZ<|fZ<|fn)<|sc O<|sn) (λy _ h=>?_)))
  obtain⟨carry,x1,out1⟩:=y
  refine ah<|ac<|bg O O<|nZ<|qZ<|cZ h O (λhb1 h=>?_) (λhb1 h=>?_)
  ·refine kZ<|qZ<|bZ<|ah<|mvZ (iZ x1) O<|asZ (iZ x1) O<|nZ<|qZ ?_
   obtain⟨r,hc,h⟩:=h
   refine tkZ h (λhg5 h=>tkZ h (λhi h=>Vc.drawn' bC rg (fh [(4,pc (.int .u64 r))]) krZ<|dP O O<|aA (v:=.int .u32 (at' a x)) O<|dP O O<|bR cG cN O<|dP O O<|aA (v:=am b) O<|dP O O<|aA (v:=iZ x1) O<|dC (vs:=[am b,iZ x1]) O (vZ<|vZ<|vn) (λ_=>cn hc (λ_ hr=>⟨by rw[hr],rfl⟩)) O<|dP O O<|y_ O O<|dP O O<|aA (v:=.sl 1 rg 17 g1 0 out1.length) O<|dP O O<|aA (v:=iZ x) O<|dP O O<|aA (v:=iZ x1) O<|dP O O<|aC O O hg5<|dP O O<|bm bp bt dZ O O hi<|dL (E:=([(rg,17)],[])) O O (by simp) (cfn) (b7 (aZ 17 O) bt dv O (bM hi lzZ) O (v:=.int .u32 (at' out1<|x+x1)) O (dP O O<|bR cG cN O<|dP O O<|np O O<|dP O O<|aA (v:=.int .u64 carry) O<|dP O O<|np O O<|dP O O<|aW (v:=.int .u64 (IntKind.wrap .u64<|(IntKind.wrap .u64<|(IntKind.wrap .u64<|(IntKind.wrap .u64<|at' a x)*r)+(IntKind.wrap .u64<|at' out1<|x+x1))+carry)) O (dN<|ah<|mvZ (.sl 1 rg 17 g1 0 out1.length) O<|mvZ (iZ x) O<|mvZ (iZ x1) O<|tkZ h (λhg6 h=>ac<|aC O O hg6<|mvZ (.int .u64<|IntKind.wrap .u64<|(IntKind.wrap .u64<|(IntKind.wrap .u64<|(IntKind.wrap .u64<|at' a x)*r)+(IntKind.wrap .u64<|at' out1<|x+x1))+carry) O (ac<|bR cN cG O<|tkZ h (λhi1 h=>ac<|bm bp bt dZ O O hi1 ?_))))))))
   exact ac<|bF (aZ 17 O) bt dZ (x':=(IntKind.wrap .u32<|IntKind.wrap .u64<|(IntKind.wrap .u64<|(IntKind.wrap .u64<|(IntKind.wrap .u64<|at' a x)*r)+(IntKind.wrap .u64<|at' out1<|x+x1))+carry)) (λ_=>O) O O (bM hi1 lzZ) O O aS<|nZ<|rZ<|mvZ (.int .u64<|IntKind.wrap .u64<|(IntKind.wrap .u64<|(IntKind.wrap .u64<|(IntKind.wrap .u64<|at' a x)*r)+(IntKind.wrap .u64<|at' out1<|x+x1))+carry) O (ac<|im O O dZ<|stZ h (λcarry1 hs h=>wZ rg<|aW (v:=.int .u64 carry1) (by subst hs;rfl)<|nZ<|rZ<|tkZ h (λhg7 h=>ac<|aC O O hg7<|mvZ (iZ<|x1+1) O<|nZ<|⟨(carry1,(x1+1),(bw out1 (x+x1)<|IntKind.wrap .u32<|IntKind.wrap .u64<|(IntKind.wrap .u64<|(IntKind.wrap .u64<|(IntKind.wrap .u64<|at' a x)*r)+(IntKind.wrap .u64<|at' out1<|x+x1))+carry)),(canon (fZ<|fc (VW.slen lzZ)<|aN<|aN<|fn)<|sc O<|sn),h⟩)))
  exact xsZ<|rZ<|tkZ h (λhg8 h=>ac<|aC O O hg8<|mvZ (iZ<|x+1) O<|nZ<|⟨((x+1),out1),(canon (aN<|fZ<|fn)<|sc O<|sn),h⟩)
 exact xsZ<|ah<|mvZ (.sl 1 rg 17 g1 0 out.length) O<|d6 (bo (k:=17) (xs:=List.map (AV.int .u32) out) O (es:=[(58,am out)]) (fc (be O)<|fn) (m:=[])<|sn)<|ac<|clZ O<|c5 h λr1 h=>asZ (am r1) O<|aF<|gv1 hrg<|hQ _ h
theorem mW {a:List Int} {b:List Int} {Q:Int->Prop} (h:i4 a b Q) (hQ:∀r1,Q r1->R (iZ r1) S) :
  Ctr Tryz.prog 115 [am a,am b] S R:=by
 refine aH Tryz.func115 rfl Tryz.ntmps115 Tryz.results115 krZ (λrg hrg=>?_)
 refine ah<|asZ (iZ 0) O<|nZ<|qZ<|ah<|mvZ (am a) O<|ac<|aI bp O<|mvZ (am b) O<|ac<|aI bp O<|ac<|za O O<|tkZ h (λhg h=>ac<|bQ O O hg<|stZ h (λi hs h=>wZ rg<|aW (v:=iZ i) (by subst hs;rfl)<|nZ<|bZ<|lpZ h (λy=>a8 [(0,am a),(1,am b),(5,iZ y)]) (λy=>stL S rg []) (canon (fZ<|fZ<|fZ<|fn)<|sn) (λi1 _ h=>qZ<|ah<|mvZ (iZ i1) O<|ac<|fk O O<|nZ<|cZ h O (λhb h=>?_) (λhb h=>?_))))
 ·refine kZ<|qZ<|bZ<|qZ<|ah<|mvZ (am a) O<|mvZ (iZ i1) O<|ac<|clZ O<|cn h λr h=>mvZ (am b) O<|mvZ (iZ i1) O<|ac<|clZ O<|cn h λr1 h=>ac<|bg O O<|nZ<|cZ h O (λhb1 h=>?_) (λhb1 h=>?_)
  ·exact ah<|asZ (iZ<|-1) O<|aF<|gv1 hrg<|hQ _ h
  refine kZ<|ah<|mvZ (am a) O<|mvZ (iZ i1) O<|ac<|clZ O<|cn h λr2 h=>mvZ (am b) O<|mvZ (iZ i1) O<|ac<|clZ O<|cn h λr3 h=>ac<|dm O O<|nZ<|cZ h O (λhb2 h=>?_) (λhb2 h=>?_)
  ·exact ah<|asZ (iZ 1) O<|aF<|gv1 hrg<|hQ _ h
  exact kZ<|rZ<|mvZ (iZ i1) O<|tkZ h (λhg1 h=>ac<|bQ O O hg1<|asZ (iZ<|i1-1) O<|nZ<|⟨(i1-1),(canon (fZ<|fZ<|fZ<|fn)<|sn),h⟩)
 exact xsZ<|ah<|asZ (iZ 0) O<|aF<|gv1 hrg<|hQ _ h
theorem mU {a:List Int} {b:List Int} {Q:List Int->Int->Prop} (h:j_ a b Q) (hQ:∀r1 r2,Q r1 r2->R (.tuple [am r1,iZ r2]) S) :
  Ctr Tryz.prog 116 [am a,am b] S R:=by
 refine aH Tryz.func116 rfl Tryz.ntmps116 Tryz.results116 krZ (λrg hrg=>?_)
 refine ah<|asZ .nil O<|asZ (iZ 0) O<|nZ<|qZ<|ah<|mvZ (am a) O<|mvZ (am b) O<|ac<|clZ O<|mW h λr h=>ac<|bg O O<|nZ<|cZ h O (λhb h=>?_) (λhb h=>?_)
 ·exact ah<|asZ .nil O<|asZ (iZ 3) O<|aF<|aE (v:=.nil) O<|aE (v:=iZ 3) O<|aK<|aT hrg (VW.tupL<|vl' (VW.nilL)<|vZ<|vn)<|hQ _ _ h
 refine kZ<|ah<|asZ .nil O<|aV<|asZ (.int .u64 0) O<|nZ<|qZ<|ah<|mvZ (am a) O<|ac<|aI bp O<|mvZ (iZ 0) O<|nZ<|bZ<|Vc.mat 6 32 1 O dZ (λg1=>lgZ h g1 (λy=>a8 [(0,am a),(1,am b),(6,.sl 1 rg 32 y.2 0 y.1.2.2.length),(7,.int .u64 y.1.1),(15,iZ (a.length:Int)),(16,iZ y.1.2.1)]) (λy=>stL S rg [(32,.arr 1 (List.map (AV.int .u32) y.1.2.2),y.2)]) (canon (fZ<|fZ<|fc (VW.slen lzZ)<|fZ<|fZ<|fZ<|fn)<|sc O<|sn) (λy _ h=>?_))
 obtain⟨⟨borrow,x,out⟩,g2⟩:=y
 refine ah<|ac<|bg O O<|nZ<|qZ<|cZ h O (λhb1 h=>?_) (λhb1 h=>?_)
 ·exact kZ<|qZ<|bZ<|ah<|mvZ (iZ x) O<|asZ (iZ x) O<|aV<|mvZ (am a) O<|mvZ (iZ x) O<|ac<|clZ O<|cn h λr1 h=>mvZ (am b) O<|mvZ (iZ x) O<|ac<|clZ O<|cn h λr2 h=>ac<|qb O O<|mvZ (.int .u64 borrow) O<|ac<|qb O O<|stZ h (λs hs h=>wZ rg<|aW (v:=.int .u64 s) (by subst hs;rfl)<|aV<|mvZ (.sl 1 rg 32 g2 0 out.length) O<|mvZ (.int .u64 s) O<|ac<|bR cN cG O<|wZ rg<|bq bp dK cK (es:=[.int .u32 (IntKind.wrap .u32 s)]) O (kk:=1) O O O O O O (λg3=>tkZ h (λhg h=>wZ rg<|cr bp fP dK cK (es:=out) (xs:=[(IntKind.wrap .u32 s)]) (enc:=AV.int .u32) (aZ 32 O) lzZ (bz (aZ 31 O) lzZ) (kk:=1) O O (λ_=>O) (λ_=>O) hg O (λ_=>aS) (λg4=>asZ (.sl 1 rg 32 g4 0<|(out++[(IntKind.wrap .u32 s)]).length) O<|nZ<|rZ<|mvZ (.int .u64 s) O<|ac<|im O O dZ<|asZ (.int .u64<|s / 2^(Int.toNat 63)) O<|nZ<|rZ<|tkZ h (λhg1 h=>ac<|aC O O hg1<|mvZ (iZ<|x+1) O<|nZ<|⟨(((s / 2^(Int.toNat 63)),(x+1),(out++[(IntKind.wrap .u32 s)])),g4),(canon (aN<|fZ<|fZ<|fn)<|sc O<|sn),h⟩)))))
 exact xsZ<|ah<|mvZ (.sl 1 rg 32 g2 0 out.length) O<|d6 (bo (k:=32) (xs:=List.map (AV.int .u32) out) O (es:=[(36,am out)]) (fc (be O)<|fn) (m:=[])<|sn)<|ac<|clZ O<|c5 h λr3 h=>asZ (am r3) O<|asZ (iZ 0) O<|aF<|aE (v:=am r3) O<|aE (v:=iZ 0) O<|aK<|aT hrg (VW.tupL<|vZ<|vZ<|vn)<|hQ _ _ h
theorem rb {a:List Int} {s:Int} {Q:List Int->Prop} (h:nP a s Q) (hQ:∀r1,Q r1->R (am r1) S) :
  Ctr Tryz.prog 257 [am a,iZ s] S R:=by
 refine aH Tryz.func257 rfl Tryz.ntmps257 Tryz.results257 krZ (λrg hrg=>?_)
 refine ah<|asZ .nil O<|aV<|asZ .nil O<|aV<|asZ (.int .u64 0) O<|nZ<|qZ<|ah<|mvZ (am a) O<|ac<|aI bp O<|mvZ (iZ 0) O<|nZ<|bZ<|Vc.mat 5 25 1 O dZ (λg1=>lgZ h g1 (λy=>a8 [(1,iZ s),(5,.sl 1 rg 25 y.2 0 y.1.2.2.length),(6,.int .u64 y.1.1),(9,am a),(10,iZ (a.length:Int)),(11,iZ y.1.2.1)]) (λy=>stL S rg [(25,.arr 1 (List.map (AV.int .u32) y.1.2.2),y.2)]) (canon (fZ<|fc (VW.slen lzZ)<|aN<|fn)<|sc O<|sn) (λy _ h=>?_))
 obtain⟨⟨carry,x,out⟩,g2⟩:=y
 refine ah<|ac<|bg O O<|nZ<|qZ<|cZ h O (λhb h=>?_) (λhb h=>?_)
 ·exact kZ<|qZ<|bZ<|ah<|tkZ h (λhg h=>ac<|aQ bp bt dZ (λ_=>O) O O hg<|ac<|aG bt dv O O (v:=.int .u32 (at' a x)) O<|asZ (.int .u32<|at' a x) O<|aV<|mvZ (.int .u64 carry) O<|mvZ (.int .u32<|at' a x) O<|ac<|bR cG cN O<|mvZ (iZ s) O<|tkZ h (λhg1 h=>ac<|oS O O hg1<|ac<|vt O O<|stZ h (λcarry1 hs h=>wZ rg<|aW (v:=.int .u64 carry1) (by subst hs;rfl)<|aV<|mvZ (.sl 1 rg 25 g2 0 out.length) O<|mvZ (.int .u64 carry1) O<|ac<|bR cN cG O<|wZ rg<|bq bp dK cK (es:=[.int .u32 (IntKind.wrap .u32 carry1)]) O (kk:=1) O O O O O O (λg3=>tkZ h (λhg2 h=>wZ rg<|cr bp fP dK cK (es:=out) (xs:=[(IntKind.wrap .u32 carry1)]) (enc:=AV.int .u32) (aZ 25 O) lzZ (bz (aZ 24 O) lzZ) (kk:=1) O O (λ_=>O) (λ_=>O) hg2 O (λ_=>aS) (λg4=>asZ (.sl 1 rg 25 g4 0<|(out++[(IntKind.wrap .u32 carry1)]).length) O<|nZ<|rZ<|mvZ (.int .u64 carry1) O<|ac<|im O O dZ<|asZ (.int .u64<|carry1 / 2^(Int.toNat 32)) O<|nZ<|rZ<|tkZ h (λhg3 h=>ac<|aC O O hg3<|mvZ (iZ<|x+1) O<|nZ<|⟨(((carry1 / 2^(Int.toNat 32)),(x+1),(out++[(IntKind.wrap .u32 carry1)])),g4),(canon (aN<|fZ<|fZ<|fn)<|sc O<|sn),h⟩)))))))
 exact xsZ<|ah<|mvZ (.sl 1 rg 25 g2 0 out.length) O<|mvZ (.int .u64 carry) O<|ac<|bR cN cG O<|wZ rg<|bq bp dK cK (es:=[.int .u32 (IntKind.wrap .u32 carry)]) O (kk:=1) O O O O O O (λg5=>tkZ h (λhg4 h=>wZ rg<|cr bp fP dK cK (es:=out) (xs:=[(IntKind.wrap .u32 carry)]) (enc:=AV.int .u32) (aZ 25 O) lzZ (bz (aZ 32 O) lzZ) (kk:=1) O O (λ_=>O) (λ_=>O) hg4 O (λ_=>aS) (λg6=>d6 (bo (k:=25) (xs:=List.map (AV.int .u32) (out++[(IntKind.wrap .u32 carry)])) O (es:=[(33,am (out++[(IntKind.wrap .u32 carry)]))]) (fc (be O)<|fn) (m:=[]) (sn)) (ac<|clZ O<|c5 h λr h=>asZ (am r) O<|aF<|gv1 hrg<|hQ _ h))))
theorem uS {a:List Int} {s:Int} {Q:List Int->Prop} (h:kQ a s Q) (hQ:∀r1,Q r1->R (am r1) S) :
  Ctr Tryz.prog 258 [am a,iZ s] S R:=by
 refine aH Tryz.func258 rfl Tryz.ntmps258 Tryz.results258 krZ (λrg hrg=>?_)
 refine ah<|asZ .nil O<|aV<|asZ .nil O<|nZ<|qZ<|ah<|mvZ (am a) O<|ac<|aI bp O<|mvZ (iZ 0) O<|nZ<|bZ<|Vc.mat 5 26 1 O dZ (λg1=>lgZ h g1 (λy=>a8 [(0,am a),(1,iZ s),(5,.sl 1 rg 26 y.2 0 y.1.2.length),(8,iZ (a.length:Int)),(9,iZ y.1.1)]) (λy=>stL S rg [(26,.arr 1 (List.map (AV.int .u32) y.1.2),y.2)]) (canon (fZ<|fZ<|fc (VW.slen lzZ)<|fZ<|fZ<|fn)<|sc O<|sn) (λy _ h=>?_))
 obtain⟨⟨x,out⟩,g2⟩:=y
 refine ah<|ac<|bg O O<|nZ<|qZ<|cZ h O (λhb h=>?_) (λhb h=>?_)
 ·exact kZ<|qZ<|bZ<|ah<|mvZ (iZ x) O<|asZ (iZ x) O<|nZ<|rZ<|mvZ (.sl 1 rg 26 g2 0 out.length) O<|mvZ (am a) O<|mvZ (iZ x) O<|ac<|clZ O<|cn h λr h=>mvZ (am a) O<|mvZ (iZ x) O<|tkZ h (λhg h=>ac<|aC O O hg<|ac<|clZ O<|cn h λr1 h=>ac<|oS O O dZ<|ac<|vt O O<|mvZ (iZ s) O<|tkZ h (λhg1 h=>ac<|im O O hg1<|ac<|bR cN cG O<|wZ rg<|bq bp dK cK (es:=[.int .u32 (IntKind.wrap .u32<|(bits .or .u64 r<|IntKind.wrap .u64<|r1*2^(Int.toNat 32)) / 2^(Int.toNat s))]) O (kk:=1) O O O O O O (λg3=>tkZ h (λhg2 h=>wZ rg<|cr bp fP dK cK (es:=out) (xs:=[(IntKind.wrap .u32<|(bits .or .u64 r<|IntKind.wrap .u64<|r1*2^(Int.toNat 32)) / 2^(Int.toNat s))]) (enc:=AV.int .u32) (aZ 26 O) lzZ (bz (aZ 25 O) lzZ) (kk:=1) O O (λ_=>O) (λ_=>O) hg2 O (λ_=>aS) (λg4=>asZ (.sl 1 rg 26 g4 0<|(out++[(IntKind.wrap .u32<|(bits .or .u64 r<|IntKind.wrap .u64<|r1*2^(Int.toNat 32)) / 2^(Int.toNat s))]).length) O (nZ<|rZ<|tkZ h (λhg3 h=>ac<|aC O O hg3<|mvZ (iZ<|x+1) O<|nZ<|⟨(((x+1),(out++[(IntKind.wrap .u32<|(bits .or .u64 r<|IntKind.wrap .u64<|r1*2^(Int.toNat 32)) / 2^(Int.toNat s))])),g4),(canon (aN<|fZ<|fn)<|sc O<|sn),h⟩)))))))
 exact xsZ<|ah<|mvZ (.sl 1 rg 26 g2 0 out.length) O<|d6 (bo (k:=26) (xs:=List.map (AV.int .u32) out) O (es:=[(28,am out)]) (fc (be O)<|fn) (m:=[])<|sn)<|ac<|clZ O<|c5 h λr2 h=>asZ (am r2) O<|aF<|gv1 hrg<|hQ _ h
theorem mV {a:List Int} {b:List Int} {Q:List Int->List Int->Int->Prop} (h:ke a b Q) (hQ:∀r1 r2 r3,Q r1 r2 r3->R (.tuple [am r1,am r2,iZ r3]) S) :
  Ctr Tryz.prog 191 [am a,am b] S R:=by
 refine aH Tryz.func191 rfl Tryz.ntmps191 Tryz.results191 krZ (λrg hrg=>?_)
 refine ah<|asZ .nil O<|asZ .nil O<|asZ (iZ 0) O<|aV<|mvZ (am b) O<|ac<|clZ O<|c5 h λb1 h=>asZ (am b1) O<|aV<|mvZ (am b1) O<|ac<|aI bp O<|asZ (iZ (b1.length:Int)) O<|nZ<|qZ<|ah<|mvZ (iZ (b1.length:Int)) O<|ac<|bE O O<|nZ<|cZ h O (λhb h=>?_) (λhb h=>?_)
 ·exact ah<|asZ .nil O<|asZ .nil O<|asZ (iZ 8) O<|aF<|aE (v:=.nil) O<|aE (v:=.nil) O<|aE (v:=iZ 8) O<|aK<|aT hrg (VW.tupL<|vl' (VW.nilL)<|vl' (VW.nilL)<|vZ<|vn)<|hQ _ _ _ h
 refine kZ<|ah<|asZ (iZ 0) O<|nZ<|qZ<|bZ<|lpZ h (λy=>a8 [(0,am a),(1,am b1),(7,iZ (b1.length:Int)),(8,iZ y)]) (λy=>stL S rg []) (canon (aN<|fn)<|sn) (λs _ h=>qZ<|ah<|mvZ (am b1) O<|mvZ (iZ (b1.length:Int)) O<|tkZ h (λhg h=>ac<|bQ O O hg<|tkZ h (λhg1 h=>ac<|aQ bp bt dZ (λ_=>O) O O hg1<|ac<|aG bt dv O O (v:=.int .u32 (at' b1<|(b1.length:Int)-1)) O (mvZ (iZ s) O<|tkZ h (λhg2 h=>ac<|oS O O hg2<|ac<|zd O O<|ac<|bE O O<|nZ<|cZ h O (λhb1 h=>?_) (λhb1 h=>?_))))))
 ·exact kZ<|bZ<|rZ<|mvZ (iZ s) O<|tkZ h (λhg3 h=>ac<|aC O O hg3<|asZ (iZ<|s+1) O<|nZ<|⟨(s+1),(canon (aN<|fn)<|sn),h⟩)
 refine xsZ<|ah<|mvZ (am a) O<|mvZ (iZ s) O<|ac<|clZ O<|rb h λa1 h=>mvZ (am b1) O<|mvZ (iZ s) O<|ac<|clZ O<|rb h λb2 h=>asZ (am a1) O<|asZ (am b2) O<|nZ<|qZ<|tkZ h (λhg4 h=>tkZ h (λhg5 h=>tkZ h (λhg6 h=>tkZ h (λhg7 h=>tkZ h (λhg8 h=>Vc.drawn' bC rg (λ_=>fz) krZ<|dP O O<|aA (v:=am a1) O<|dP O O<|aI bp O<|dL (E:=([],[(rg,39)])) O O (by simp) (cfn) (fK bp fP dK (enc:=AV.int .u32) (z':=0) cK (kk:=1) O O O hg4 (λg1=>dL (E:=([],[(rg,40)])) O O (by simp) (cfa (by simp[aJ])<|cfn) (bq bp dK cK (es:=[]) O (kk:=1) O O O O O O (λg2=>dP O O<|aA (v:=am a1) O<|dP O O<|aA (v:=am a1) O<|dP O O<|aI bp O<|dP O O<|aA (v:=iZ (b1.length:Int)) O<|dP O O<|bQ O O hg5<|dP O O<|aC O O hg6<|dP O O<|za O O<|dP O O<|gR bp bt dZ (λ_=>O) O (l:=(max 0<|((a1.length:Int)-(b1.length:Int))+1)) (h:=(a1.length:Int)) O O hg7 (dL (E:=([],[(rg,40)])) O O (by simp) (cfo krZ<|cfa (by simp[aJ])<|cfn) (cr bp fP dK cK (es:=[]) (xs:=(bH a1 (max 0<|((a1.length:Int)-(b1.length:Int))+1) (a1.length:Int))) (enc:=AV.int .u32) (aZ 40 O) lzZ (O) (kk:=1) O O (λ_=>O) (λ_=>O) hg8 O (λ_=>aS) (λg3=>dP O O<|aW (v:=.sl 1 rg 39 g1 0 (Int.toNat (a1.length:Int))) O ?_))))))))))))
 refine dP O O<|aW (v:=.sl 1 rg 40 g3 0 (([]++(bH a1 (max 0<|((a1.length:Int)-(b1.length:Int))+1) (a1.length:Int))).length)) O (dN<|qZ<|ah<|mvZ (am a1) O<|ac<|aI bp O<|mvZ (iZ (b1.length:Int)) O<|tkZ h (λhg9 h=>ac<|bQ O O hg9<|asZ (iZ<|(a1.length:Int)-(b1.length:Int)) O<|nZ<|bZ<|BP (bo (k:=40) (xs:=List.map (AV.int .u32) ([]++(bH a1 (max 0<|((a1.length:Int)-(b1.length:Int))+1) (a1.length:Int)))) O (es:=[(0,am a1),(1,am b2),(7,iZ (b1.length:Int)),(8,iZ s),(9,.sl 1 rg 39 g1 0 (Int.toNat (a1.length:Int))),(10,am ([]++(bH a1 (max 0<|((a1.length:Int)-(b1.length:Int))+1) (a1.length:Int)))),(11,iZ ((a1.length:Int)-(b1.length:Int)))]) (aN<|fc (eu O)<|fc (be O)<|fZ<|fn) (m:=[(39,.arr 1 (List.map (AV.int .u32)<|bS (a1.length:Int) 0),g1)]) (sc O<|sn)) (lpZ h (λy=>a8 [(0,am a1),(1,am b2),(7,iZ (b1.length:Int)),(8,iZ s),(9,.sl 1 rg 39 g1 0 y.2.2.length),(10,am y.1),(11,iZ y.2.1)]) (λy=>stL S rg [(39,.arr 1 (List.map (AV.int .u32) y.2.2),g1)]) (canon (aN<|fc (VW.slen lzZ)<|fZ<|fZ<|fn)<|sc O<|sn) (λy _ h=>?_))))
 obtain⟨r,i,q⟩:=y
 refine qZ<|ah<|mvZ (iZ i) O<|ac<|fk O O<|nZ<|cZ h O (λhb2 h=>?_) (λhb2 h=>?_)
 ·refine kZ<|qZ<|bZ<|ah<|mvZ (am a1) O<|mvZ (iZ i) O<|tkZ h (λhg10 h=>ac<|aQ bp bt dZ (λ_=>O) O O hg10<|ac<|aG bt dv O O (v:=.int .u32 (at' a1 i)) O<|wZ rg<|bq bp dK cK (es:=[.int .u32 (at' a1 i)]) O (kk:=1) O O O O O O (λg4=>mvZ (am r) O<|tkZ h (λhg11 h=>wZ rg<|cr bp fP dK cK (es:=[(at' a1 i)]) (xs:=r) (enc:=AV.int .u32) (aZ 62 O) lzZ (O) (kk:=1) O O (λ_=>O) (λ_=>O) hg11 O (λ_=>aS) (λg5=>d6 (bo (k:=62) (xs:=List.map (AV.int .u32) ([(at' a1 i)]++r)) O (es:=[(0,am a1),(1,am b2),(7,iZ (b1.length:Int)),(8,iZ s),(9,.sl 1 rg 39 g1 0 q.length),(11,iZ i),(64,am ([(at' a1 i)]++r))]) (aN<|fc (eu O)<|fZ<|fc (be O)<|fn) (m:=[(39,.arr 1 (List.map (AV.int .u32) q),g1)]) (sc O<|sn)) (ac<|clZ O<|c5 h λr1 h=>asZ (am r1) O<|aV<|mvZ (am r1) O<|mvZ (iZ (b1.length:Int)) O<|ac<|clZ O<|cn h λr2 h=>ac<|oS O O dZ<|mvZ (am r1) O<|mvZ (iZ (b1.length:Int)) O<|tkZ h (λhg12 h=>ac<|bQ O O hg12<|ac<|clZ O<|cn h λr3 h=>ac<|vt O O<|mvZ (am b2) O<|mvZ (iZ (b1.length:Int)) O<|tkZ h (λhg13 h=>ac<|bQ O O hg13<|ac<|clZ O<|cn h λr4 h=>tkZ h (λhg14 h=>ac<|Bd O O hg14<|ac<|FC O O<|stZ h (λguess hs h=>?_)))))))))
  refine wZ rg<|aW (v:=.int .u64 guess) (by subst hs;rfl)<|aV<|mvZ (am b2) O<|mvZ (.int .u64 guess) O<|ac<|bR cN cG O<|wZ rg<|bq bp dK cK (es:=[.int .u32 (IntKind.wrap .u32 guess)]) O (kk:=1) O O O O O O (λg6=>d6 (bo (k:=84) (xs:=List.map (AV.int .u32) [(IntKind.wrap .u32 guess)]) O (es:=[(0,am a1),(1,am b2),(7,iZ (b1.length:Int)),(8,iZ s),(9,.sl 1 rg 39 g1 0 q.length),(10,am r1),(11,iZ i),(12,.int .u64 guess),(81,am b2),(84,am [(IntKind.wrap .u32 guess)])]) (aN<|fc (eu O)<|aN<|fc (be O)<|fn) (m:=[(39,.arr 1 (List.map (AV.int .u32) q),g1)]) (sc O<|sn)) (ac<|clZ O<|gp h λp h=>asZ (am p) O<|nZ<|qZ<|bZ<|lpZ h (λy=>a8 [(0,am a1),(1,am b2),(7,iZ (b1.length:Int)),(8,iZ s),(9,.sl 1 rg 39 g1 0 q.length),(10,am r1),(11,iZ i),(12,.int .u64 y.1),(13,am y.2)]) (λy=>stL S rg [(39,.arr 1 (List.map (AV.int .u32) q),g1)]) (canon (aN<|aN<|fZ<|fn)<|sc O<|sn) (λy _ h=>?_)))
  obtain⟨guess1,p1⟩:=y
  refine qZ<|ah<|mvZ (am p1) O<|mvZ (am r1) O<|ac<|clZ O<|mW h λr5 h=>ac<|dm O O<|nZ<|cZ h O (λhb3 h=>?_) (λhb3 h=>?_)
  ·exact kZ<|bZ<|ah<|mvZ (.int .u64 guess1) O<|ac<|qb O O<|asZ (.int .u64<|IntKind.wrap .u64<|guess1-1) O<|nZ<|rZ<|mvZ (am p1) O<|mvZ (am b2) O<|ac<|clZ O<|mU h λr6 r7 h=>mvZ (.tuple [am r6,iZ r7]) O<|ac<|au (v:=am r6) O O O<|ac<|au (v:=iZ r7) O O O<|asZ (am r6) O<|nZ<|⟨((IntKind.wrap .u64<|guess1-1),r6),(canon (aN<|aN<|fZ<|fn)<|sc O<|sn),h⟩
  exact xsZ<|ah<|mvZ (am r1) O<|mvZ (am p1) O<|ac<|clZ O<|mU h λr8 r9 h=>mvZ (.tuple [am r8,iZ r9]) O<|ac<|au (v:=am r8) O O O<|ac<|au (v:=iZ r9) O O O<|asZ (am r8) O<|nZ<|rZ<|mvZ (.sl 1 rg 39 g1 0 q.length) O<|mvZ (iZ i) O<|mvZ (.int .u64 guess1) O<|ac<|bR cN cG O<|tkZ h (λhi h=>ac<|bm bp bt dZ O O hi<|ac<|bF (aZ 39 O) bt dZ (x':=(IntKind.wrap .u32 guess1)) (λ_=>O) O O (bM hi lzZ) O O aS<|nZ<|rZ<|mvZ (iZ i) O<|tkZ h (λhg15 h=>ac<|bQ O O hg15<|asZ (iZ<|i-1) O<|nZ<|⟨(r8,(i-1),(bw q i<|IntKind.wrap .u32 guess1)),(canon (aN<|fc (VW.slen lzZ)<|fZ<|fZ<|fn)<|sc O<|sn),h⟩))
 exact xsZ<|ah<|mvZ (.sl 1 rg 39 g1 0 q.length) O<|d6 (bo (k:=39) (xs:=List.map (AV.int .u32) q) O (es:=[(8,iZ s),(10,am r),(109,am q)]) (fZ<|fZ<|fc (be O)<|fn) (m:=[]) (sn)) (ac<|clZ O<|c5 h λr10 h=>mvZ (am r) O<|mvZ (iZ s) O<|ac<|clZ O<|uS h λr11 h=>asZ (am r10) O<|asZ (am r11) O<|asZ (iZ 0) O<|aF<|aE (v:=am r10) O<|aE (v:=am r11) O<|aE (v:=iZ 0) O<|aK<|aT hrg (VW.tupL<|vZ<|vZ<|vZ<|vn)<|hQ _ _ _ h)
theorem p_ {a:List Int} {b:List Int} {Q:List Int->Prop} (h:mr a b Q) (hQ:∀r1,Q r1->R (am r1) S) :
  Ctr Tryz.prog 190 [am a,am b] S R:=by
 refine aH Tryz.func190 rfl Tryz.ntmps190 Tryz.results190 krZ (λrg hrg=>?_)
 refine ah<|asZ .nil O<|aV<|mvZ (am a) O<|ac<|clZ O<|c5 h λa1 h=>mvZ (am b) O<|ac<|clZ O<|c5 h λb1 h=>asZ (am a1) O<|asZ (am b1) O<|nZ<|qZ<|bZ<|lpZ h (λy=>a8 [(0,am y.1),(1,am y.2)]) (λy=>stL S rg []) (canon (fZ<|fZ<|fn)<|sn) (λy _ h=>?_)
 obtain⟨a2,b2⟩:=y
 refine qZ<|ah<|mvZ (am b2) O<|ac<|aI bp O<|ac<|dm O O<|nZ<|cZ h O (λhb h=>?_) (λhb h=>?_)
 ·exact kZ<|bZ<|ah<|mvZ (am a2) O<|mvZ (am b2) O<|ac<|clZ O<|mV h λr r1 r2 h=>mvZ (.tuple [am r,am r1,iZ r2]) O<|ac<|au (v:=am r) O O O<|ac<|au (v:=am r1) O O O<|ac<|au (v:=iZ r2) O O O<|asZ (am r) O<|asZ (am r1) O<|asZ (iZ r2) O<|nZ<|rZ<|mvZ (am b2) O<|mvZ (am r1) O<|asZ (am b2) O<|asZ (am r1) O<|nZ<|⟨(b2,r1),(canon (fZ<|fZ<|fn)<|sn),h⟩
 exact xsZ<|ah<|mvZ (am a2) O<|asZ (am a2) O<|aF<|gv1 hrg<|hQ _ h
theorem wz {a:List Int} {b:List Int} {Q:List Int->Prop} (h:mu a b Q) (hQ:∀r1,Q r1->R (am r1) S) :
  Ctr Tryz.prog 114 [am a,am b] S R:=by
 refine aH Tryz.func114 rfl Tryz.ntmps114 Tryz.results114 krZ (λrg hrg=>?_)
 refine ah<|asZ .nil O<|aV<|asZ .nil O<|aV<|asZ (.int .u64 0) O<|nZ<|qZ<|ah<|mvZ (am a) O<|ac<|aI bp O<|mvZ (am b) O<|ac<|aI bp O<|ac<|za O O<|tkZ h (λhg h=>ac<|aC O O hg<|mvZ (iZ 0) O<|nZ<|bZ<|Vc.mat 5 31 1 O dZ (λg1=>lgZ h g1 (λy=>a8 [(0,am a),(1,am b),(5,.sl 1 rg 31 y.2 0 y.1.2.2.length),(6,.int .u64 y.1.1),(14,iZ ((max (a.length:Int) (b.length:Int))+1)),(15,iZ y.1.2.1)]) (λy=>stL S rg [(31,.arr 1 (List.map (AV.int .u32) y.1.2.2),y.2)]) (canon (fZ<|fZ<|fc (VW.slen lzZ)<|fZ<|fZ<|fZ<|fn)<|sc O<|sn) (λy _ h=>?_)))
 obtain⟨⟨carry,x,out⟩,g2⟩:=y
 refine ah<|ac<|bg O O<|nZ<|qZ<|cZ h O (λhb h=>?_) (λhb h=>?_)
 ·exact kZ<|qZ<|bZ<|ah<|mvZ (iZ x) O<|asZ (iZ x) O<|aV<|mvZ (am a) O<|mvZ (iZ x) O<|ac<|clZ O<|cn h λr h=>mvZ (am b) O<|mvZ (iZ x) O<|ac<|clZ O<|cn h λr1 h=>ac<|np O O<|mvZ (.int .u64 carry) O<|ac<|np O O<|stZ h (λs hs h=>wZ rg<|aW (v:=.int .u64 s) (by subst hs;rfl)<|aV<|mvZ (.sl 1 rg 31 g2 0 out.length) O<|mvZ (.int .u64 s) O<|ac<|bR cN cG O<|wZ rg<|bq bp dK cK (es:=[.int .u32 (IntKind.wrap .u32 s)]) O (kk:=1) O O O O O O (λg3=>tkZ h (λhg1 h=>wZ rg<|cr bp fP dK cK (es:=out) (xs:=[(IntKind.wrap .u32 s)]) (enc:=AV.int .u32) (aZ 31 O) lzZ (bz (aZ 30 O) lzZ) (kk:=1) O O (λ_=>O) (λ_=>O) hg1 O (λ_=>aS) (λg4=>asZ (.sl 1 rg 31 g4 0<|(out++[(IntKind.wrap .u32 s)]).length) O<|nZ<|rZ<|mvZ (.int .u64 s) O<|ac<|im O O dZ<|asZ (.int .u64<|s / 2^(Int.toNat 32)) O<|nZ<|rZ<|tkZ h (λhg2 h=>ac<|aC O O hg2<|mvZ (iZ<|x+1) O<|nZ<|⟨(((s / 2^(Int.toNat 32)),(x+1),(out++[(IntKind.wrap .u32 s)])),g4),(canon (aN<|fZ<|fZ<|fn)<|sc O<|sn),h⟩)))))
 exact xsZ<|ah<|mvZ (.sl 1 rg 31 g2 0 out.length) O<|d6 (bo (k:=31) (xs:=List.map (AV.int .u32) out) O (es:=[(35,am out)]) (fc (be O)<|fn) (m:=[])<|sn)<|ac<|clZ O<|c5 h λr2 h=>asZ (am r2) O<|aF<|gv1 hrg<|hQ _ h
end Go.Proofs.YtnjgdkfhgmebjaaGreat
namespace Go.Proofs.YtnjgdkfhgmebjaaGreat
open Go.Gg
set_option maxRecDepth 100000
variable {S:St} {R:AV->St->Prop}
theorem jG {Q:List Int->Prop} (h:jj Q) (hQ:∀r1,Q r1->R (am r1) S) :
  Ctr Tryz.prog 196 [] S R:=by
 refine aH Tryz.func196 rfl Tryz.ntmps196 Tryz.results196 krZ (λrg hrg=>?_)
 exact ah<|asZ .nil O<|aV<|wZ rg<|bq bp dK cK (es:=[.int .u32 1]) O (kk:=1) O O O O O O (λg1=>asZ (.sl 1 rg 1 g1 0<|[1].length) O<|aF<|aE (v:=.sl 1 rg 1 g1 0 ([1].length)) O<|aK<|br (k:=1) (xs:=List.map (AV.int .u32) [1]) O (v':=am [1]) (be O)<|goZ hrg<|hQ _ h)
theorem lN {a:List Int} {Q:Bool->Prop} (h:h_ a Q) (hQ:∀r1,Q r1->R (AV.bool r1) S) :
  Ctr Tryz.prog 259 [am a] S R:=by
 refine aH Tryz.func259 rfl Tryz.ntmps259 Tryz.results259 krZ (λrg hrg=>?_)
 refine ah<|asZ (.bool false) O<|aV<|mvZ (am a) O<|ac<|aI bp O<|ac<|dm O O<|mvZ (.bool<|decide<|0<(a.length:Int)) O<|gtZ h O O (λhb h=>?_) (λhb h=>?_)
 ·exact mvZ (am a) O<|gTZ O O hb<|mvZ (am a) O<|gTZ O O hb<|ac<|aI bp O<|gTZ O O hb<|tkZ h (λhg h=>ac<|bQ O O hg<|gTZ O O hb<|tkZ h (λhg1 h=>ac<|aQ bp bt dZ (λ_=>O) O O hg1<|gTZ O O hb<|ac<|aG bt dv O O (v:=.int .u32 (at' a<|(a.length:Int)-1)) O (gTZ O O hb<|ac<|de O O<|ac<|bf O hb (v:=.bool ((at' a<|(a.length:Int)-1) != 0)) O (asZ (.bool<|(at' a<|(a.length:Int)-1) != 0) O (aF<|gv1 hrg<|hQ _ h)))))
 exact gFZ O O hb O<|gFZ O O hb O<|gFZ O O hb O<|gFZ O O hb O<|gFZ O O hb O<|gFZ O O hb O<|ac<|ba O hb (v:=.bool false) O<|asZ (.bool false) O<|aF<|gv1 hrg<|hQ _ h
theorem lO {a:GRat} {Q:Bool->Prop} (h:ia a Q) (hQ:∀r1,Q r1->R (AV.bool r1) S) :
  Ctr Tryz.prog 192 [aq a] S R:=by
 refine aH Tryz.func192 rfl Tryz.ntmps192 Tryz.results192 krZ (λrg hrg=>?_)
 refine ah<|wZ rg<|bx (v:=aq a) O O (kk:=3) O dZ (λg1=>asZ (.bool false) O<|nZ<|qZ<|jgZ (γ:=Nat) h (λy=>a8 [(1,.ptr rg 1 y.2 0 0),(12,.bool y.1)]) (λy=>stL S rg [(1,.arr 3 [aq a],y.2)]) (λy h=>?_) (λ_ h=>?_))
 ·obtain⟨x,g2⟩:=y
  refine cZ h O (λhb h=>?_) (λhb h=>?_)
  ·exact ah<|ac<|aD o7 O<|ac<|ae (aZ 1 O) sz4 ag4 O O (v:=.bool a.Neg) O<|ac<|gS O<|asZ (.bool<|!a.Neg) O<|aF<|gv1 hrg<|hQ _ h
  refine kZ<|ah<|ac<|aD iU O<|ac<|ae (aZ 1 O) i8 jB O O (v:=am a.Num) O<|ac<|clZ O<|lN h λr h=>mvZ (.bool r) O<|gtZ h O O (λhb1 h=>?_) (λhb1 h=>?_)
  ·refine ac<|aD jN O<|gTZ O O hb1<|ac<|ae (aZ 1 O) i8 jB O O (v:=am a.Den) O<|gTZ O O hb1<|ac<|clZ O<|lN h λr1 h=>ac<|bf O hb1 (v:=.bool r1) O<|mvZ (.bool r1) O<|gtZ h O O (λhb2 h=>?_) (λhb2 h=>?_)
   ·exact ac<|aD iU O<|gTZ O O hb2<|ac<|ae (aZ 1 O) i8 jB O O (v:=am a.Num) O<|gTZ O O hb2<|ac<|aD jN O<|gTZ O O hb2<|ac<|ae (aZ 1 O) i8 jB O O (v:=am a.Den) O<|gTZ O O hb2<|ac<|clZ O<|ot h λr2 h=>gTZ O O hb2<|ac<|clZ O<|jG h λr3 h=>gTZ O O hb2<|ac<|clZ O<|gi h λr4 h=>gTZ O O hb2<|ac<|bE O O<|ac<|bf O hb2 (v:=.bool (r4 == 0)) O<|asZ (.bool<|r4 == 0) O<|aF<|gv1 hrg<|hQ _ h
   exact gFZ O O hb2 O<|gFZ O O hb2 O<|gFZ O O hb2 O<|gFZ O O hb2 O<|gFZ O O hb2 O<|gFZ O O hb2 O<|gFZ O O hb2 O<|ac<|ba O hb2 (v:=.bool false) O<|asZ (.bool false) O<|aF<|gv1 hrg<|hQ _ h
  exact gFZ O O hb1 O<|gFZ O O hb1 O<|ac<|ba O hb1 (v:=.bool false) O<|mvZ (.bool false) O<|gFZ O O O O<|gFZ O O O O<|gFZ O O O O<|gFZ O O O O<|gFZ O O O O<|gFZ O O O O<|gFZ O O O O<|gFZ O O O O<|ac<|ba O O (v:=.bool false) O<|asZ (.bool false) O<|aF<|gv1 hrg<|hQ _ h
 refine rZ<|ac<|aD iU O<|ac<|ae (aZ 1 O) i8 jB O O (v:=am a.Num) O<|ac<|aI bp O<|ac<|bE O O<|mvZ (.bool<|(a.Num.length:Int) == 0) O<|gtZ h O O (λhb3 h=>?_) (λhb3 h=>?_)
 ·exact ac<|aD jN O<|gTZ O O hb3<|ac<|ae (aZ 1 O) i8 jB O O (v:=am a.Den) O<|gTZ O O hb3<|ac<|aI bp O<|gTZ O O hb3<|ac<|bE O O<|ac<|bf O hb3 (v:=.bool ((a.Den.length:Int) == 0)) O (nZ<|⟨(((a.Den.length:Int) == 0),g1),(canon (fZ<|fZ<|fn)<|sc O<|sn),h⟩)
 exact gFZ O O hb3 O<|gFZ O O hb3 O<|gFZ O O hb3 O<|ac<|ba O hb3 (v:=.bool false) O<|nZ<|⟨(false,g1),(canon (fZ<|fZ<|fn)<|sc O<|sn),h⟩
theorem eV {a:GRat} {Q:Bool->List Int->List Int->Prop} (h:dI a Q) (hQ:∀r1 r2 r3,Q r1 r2 r3->R (.tuple [AV.bool r1,am r2,am r3]) S) :
  Ctr Tryz.prog 163 [aq a] S R:=by
 refine aH Tryz.func163 rfl Tryz.ntmps163 Tryz.results163 krZ (λrg hrg=>?_)
 refine ah<|wZ rg<|bx (v:=aq a) O O (kk:=3) O dZ (λg1=>asZ (.bool false) O<|asZ .nil O<|asZ .nil O<|nZ<|qZ<|jgZ (γ:=Nat) h (λy=>a8 [(1,.ptr rg 1 y.2 0 0),(13,.bool y.1)]) (λy=>stL S rg [(1,.arr 3 [aq a],y.2)]) (λy h=>?_) (λ_ h=>?_))
 ·obtain⟨x,g2⟩:=y
  refine cZ h O (λhb h=>?_) (λhb h=>?_)
  ·exact ah<|ac<|clZ O<|jG h λr h=>asZ (.bool false) O<|asZ .nil O<|asZ (am r) O<|aF<|aE (v:=.bool false) O<|aE (v:=.nil) O<|aE (v:=am r) O<|aK<|aT hrg (VW.tupL<|vZ<|vl' (VW.nilL)<|vZ<|vn)<|hQ _ _ _ h
  exact kZ<|qZ<|Vc.drawn' bC rg (λ_=>fz) krZ<|dP O O<|aD o7 O<|dL (E:=([(rg,1)],[])) O O (by simp) (cfn) (ae (aZ 1 O) sz4 ag4 O O (v:=.bool a.Neg) O<|dP O O<|aD iU O<|dL (E:=([(rg,1)],[])) O O (by simp) (cfa (by simp[aJ])<|cfn) (ae (aZ 1 O) i8 jB O O (v:=am a.Num) O<|dP O O<|aD jN O<|dL (E:=([(rg,1)],[])) O O (by simp) (cfa (by simp[aJ])<|cfa (by simp[aJ])<|cfn) (ae (aZ 1 O) i8 jB O O (v:=am a.Den) O<|dP O O<|aW (v:=.bool a.Neg) O<|dP O O<|aW (v:=am a.Num) O<|dP O O<|aW (v:=am a.Den) O<|dN<|uZ<|aE (v:=.bool a.Neg) O<|aE (v:=am a.Num) O<|aE (v:=am a.Den) O<|aK<|aT hrg (VW.tupL<|vZ<|vZ<|vZ<|vn)<|hQ _ _ _ h)))
 refine rZ<|ac<|aw (aZ 1 O) a_ dZ bK O O (v:=aq a) O<|ac<|clZ O<|lO h λr1 h=>ac<|gS O<|mvZ (.bool<|!r1) O<|gfZ h O O (λhb1 h=>?_) (λhb1 h=>?_)
 ·exact ac<|aD iU O<|gTZ O O hb1<|ac<|ae (aZ 1 O) i8 jB O O (v:=am a.Num) O<|gTZ O O hb1<|ac<|aI bp O<|gTZ O O hb1<|ac<|bE O O<|ac<|ba O hb1 (v:=.bool ((a.Num.length:Int) == 0)) O (nZ<|⟨(((a.Num.length:Int) == 0),g1),(canon (fZ<|fZ<|fn)<|sc O<|sn),h⟩)
 exact gFZ O O hb1 O<|gFZ O O hb1 O<|gFZ O O hb1 O<|ac<|bf O hb1 (v:=.bool true) O<|nZ<|⟨(true,g1),(canon (fZ<|fZ<|fn)<|sc O<|sn),h⟩
theorem ea {neg:Bool} {num:List Int} {den:List Int} {Q:GRat->Prop} (h:c8 neg num den Q) (hQ:∀r1,Q r1->R (aq r1) S) :
  Ctr Tryz.prog 165 [AV.bool neg,am num,am den] S R:=by
 refine aH Tryz.func165 rfl Tryz.ntmps165 Tryz.results165 krZ (λrg hrg=>?_)
 refine ah<|wZ rg<|aU bN dz (kk:=3) O (λg1=>nZ<|qZ<|ah<|mvZ (am num) O<|ac<|clZ O<|sQ h λr h=>ac<|bE O O<|nZ<|cZ h O (λhb h=>?_) (λhb h=>?_))
 ·exact ah<|ac<|bG nf bN kr j7 a_ (ps:=[]) O O (v:=.agg [.bool false,.nil,.nil]) O<|ac<|ay (aZ 6 O) a_ dZ O (w:=.agg [.bool false,.nil,.nil]) O O O (v:=.agg [.bool false,.nil,.nil]) O aS<|aF<|bh (aZ 6 O) a_ dZ bK O O (v:=.agg [.bool false,.nil,.nil]) O<|aK<|aT hrg (VW.aggL<|vZ<|vl' (VW.nilL)<|vl' (VW.nilL)<|vn)<|hQ _ h
 exact kZ<|ah<|mvZ (am num) O<|mvZ (am den) O<|ac<|clZ O<|ot h λg2 h=>asZ (am g2) O<|aV<|mvZ (am num) O<|mvZ (am g2) O<|ac<|clZ O<|kD h λr1 r2 r3 h=>mvZ (.tuple [am r1,am r2,a9 82 r3]) O<|ac<|au (v:=am r1) O O O<|ac<|au (v:=am r2) O O O<|ac<|au (v:=a9 82 r3) O O O<|asZ (am r1) O<|asZ (am r2) O<|asZ (a9 82 r3) O<|aV<|mvZ (am den) O<|mvZ (am g2) O<|ac<|clZ O<|kD h λr4 r5 r6 h=>mvZ (.tuple [am r4,am r5,a9 82 r6]) O<|ac<|au (v:=am r4) O O O<|ac<|au (v:=am r5) O O O<|ac<|au (v:=a9 82 r6) O O O<|asZ (am r4) O<|asZ (am r5) O<|asZ (a9 82 r6) O<|aV<|mvZ (.bool neg) O<|mvZ (am r1) O<|mvZ (am r4) O<|ac<|bG nf bN kr j7 a_ (ps:=[(0,.bool neg),(1,am r1),(2,am r4)]) O O (v:=.agg [.bool neg,am r1,am r4]) O (ac<|ay (aZ 6 O) a_ dZ O (w:=.agg [.bool neg,am r1,am r4]) O O O (v:=.agg [.bool neg,am r1,am r4]) O aS<|aF<|bh (aZ 6 O) a_ dZ bK O O (v:=.agg [.bool neg,am r1,am r4]) O<|aK<|goZ hrg<|hQ _ h)
theorem ib {a:GRat} {b:GRat} {Q:GRat->Prop} (h:dW a b Q) (hQ:∀r1,Q r1->R (aq r1) S) :
  Ctr Tryz.prog 91 [aq a,aq b] S R:=by
 refine aH Tryz.func91 rfl Tryz.ntmps91 Tryz.results91 krZ (λrg hrg=>?_)
 refine ah<|wZ rg<|bx (v:=aq a) O O (kk:=3) O dZ (λg1=>wZ rg<|bx (v:=aq b) O O (kk:=3) O dZ (λg2=>wZ rg<|aU bN dz (kk:=3) O (λg3=>aV<|ac<|aw (aZ 2 O) a_ dZ bK O O (v:=aq a) O<|ac<|clZ O<|eV h λr r1 r2 h=>mvZ (.tuple [.bool r,am r1,am r2]) O<|ac<|au (v:=.bool r) O O O<|ac<|au (v:=am r1) O O O<|ac<|au (v:=am r2) O O O<|asZ (.bool r) O<|asZ (am r1) O<|asZ (am r2) O<|aV<|ac<|aw (aZ 3 O) a_ dZ bK O O (v:=aq b) O<|ac<|clZ O<|eV h λr3 r4 r5 h=>mvZ (.tuple [.bool r3,am r4,am r5]) O<|ac<|au (v:=.bool r3) O O O<|ac<|au (v:=am r4) O O O<|ac<|au (v:=am r5) O O O<|asZ (.bool r3) O<|asZ (am r4) O<|asZ (am r5) O<|aV<|mvZ (am r1) O<|mvZ (am r5) O<|ac<|clZ O<|gh h λp h=>mvZ (am r4) O<|mvZ (am r2) O<|ac<|clZ O<|gh h λq h=>asZ (am p) O<|asZ (am q) O<|aV<|mvZ (am r2) O<|mvZ (am r5) O<|ac<|clZ O<|gh h λden h=>asZ (am den) O<|nZ<|qZ<|ah<|mvZ (.bool r) O<|mvZ (.bool r3) O<|ac<|Ab td4 O O<|nZ<|cZ h O (λhb h=>?_) (λhb h=>?_))))
 ·exact ah<|mvZ (.bool r) O<|mvZ (am p) O<|mvZ (am q) O<|ac<|clZ O<|t_ h λr6 h=>mvZ (am den) O<|ac<|clZ O<|ea h λr7 h=>ac<|ay (aZ 4 O) a_ dZ O (w:=aq r7) O O O (v:=aq r7) O aS<|aF<|bh (aZ 4 O) a_ dZ bK O O (v:=aq r7) O<|aK<|goZ hrg<|hQ _ h
 refine kZ<|qZ<|ah<|mvZ (am p) O<|mvZ (am q) O<|ac<|clZ O<|gi h λr8 h=>ac<|fk O O<|nZ<|cZ h O (λhb1 h=>?_) (λhb1 h=>?_)
 ·exact ah<|mvZ (am p) O<|mvZ (am q) O<|ac<|clZ O<|oq h λr9 r10 h=>mvZ (.tuple [am r9,a9 82 r10]) O<|ac<|au (v:=am r9) O O O<|ac<|au (v:=a9 82 r10) O O O<|asZ (am r9) O<|asZ (a9 82 r10) O<|aV<|mvZ (.bool r) O<|mvZ (am r9) O<|mvZ (am den) O<|ac<|clZ O<|ea h λr11 h=>ac<|ay (aZ 4 O) a_ dZ O (w:=aq r11) O O O (v:=aq r11) O aS<|aF<|bh (aZ 4 O) a_ dZ bK O O (v:=aq r11) O<|aK<|goZ hrg<|hQ _ h
 exact kZ<|ah<|mvZ (am q) O<|mvZ (am p) O<|ac<|clZ O<|oq h λr12 r13 h=>mvZ (.tuple [am r12,a9 82 r13]) O<|ac<|au (v:=am r12) O O O<|ac<|au (v:=a9 82 r13) O O O<|asZ (am r12) O<|asZ (a9 82 r13) O<|aV<|mvZ (.bool r3) O<|mvZ (am r12) O<|mvZ (am den) O<|ac<|clZ O<|ea h λr14 h=>ac<|ay (aZ 4 O) a_ dZ O (w:=aq r14) O O O (v:=aq r14) O aS<|aF<|bh (aZ 4 O) a_ dZ bK O O (v:=aq r14) O<|aK<|goZ hrg<|hQ _ h
theorem sF {a:GRat} {Q:GRat->Prop} (h:lP a Q) (hQ:∀r1,Q r1->R (aq r1) S) :
  Ctr Tryz.prog 173 [aq a] S R:=by
 refine aH Tryz.func173 rfl Tryz.ntmps173 Tryz.results173 krZ (λrg hrg=>?_)
 exact ah<|wZ rg<|bx (v:=aq a) O O (kk:=3) O dZ (λg1=>wZ rg<|aU bN dz (kk:=3) O (λg2=>aV<|ac<|aw (aZ 1 O) a_ dZ bK O O (v:=aq a) O<|ac<|clZ O<|eV h λr r1 r2 h=>mvZ (.tuple [.bool r,am r1,am r2]) O<|ac<|au (v:=.bool r) O O O<|ac<|au (v:=am r1) O O O<|ac<|au (v:=am r2) O O O<|asZ (.bool r) O<|asZ (am r1) O<|asZ (am r2) O<|aV<|mvZ (.bool r) O<|ac<|gS O<|mvZ (am r1) O<|mvZ (am r2) O<|ac<|clZ O<|ea h λr3 h=>ac<|ay (aZ 2 O) a_ dZ O (w:=aq r3) O O O (v:=aq r3) O aS<|aF<|bh (aZ 2 O) a_ dZ bK O O (v:=aq r3) O<|aK<|goZ hrg<|hQ _ h))
theorem nk {a:GRat} {b:GRat} {Q:GRat->Prop} (h:fH a b Q) (hQ:∀r1,Q r1->R (aq r1) S) :
  Ctr Tryz.prog 98 [aq a,aq b] S R:=by
 refine aH Tryz.func98 rfl Tryz.ntmps98 Tryz.results98 krZ (λrg hrg=>?_)
 refine ah<|wZ rg<|bx (v:=aq a) O O (kk:=3) O dZ (λg1=>wZ rg<|bx (v:=aq b) O O (kk:=3) O dZ (λg2=>wZ rg<|aU bN dz (kk:=3) O (λg3=>nZ<|qZ ?_)))
 obtain⟨r,hc,h⟩:=h
 obtain⟨r1,hc1,h⟩:=h
 exact Vc.drawn' bC rg (fh [(2,pc (aq r)),(3,pc (aq r1))]) krZ<|dL (E:=([(rg,2)],[])) O O (by simp) (cfn) (aw (aZ 2 O) a_ dZ bK O O (v:=aq a) O<|dL (E:=([(rg,3)],[])) O O (by simp) (cfa (by simp[aJ])<|cfn) (aw (aZ 3 O) a_ dZ bK O O (v:=aq b) O<|dC (vs:=[aq b]) O (vZ<|vn) (λ_=>sF hc (λ_ hr=>⟨by rw[hr],rfl⟩)) O<|dC (vs:=[aq a,aq r]) O (vZ<|vZ<|vn) (λ_=>ib hc1 (λ_ hr=>⟨by rw[hr],rfl⟩)) O<|dL (E:=([],[(rg,4)])) O O (by simp) (cfo krZ<|cfo krZ<|cfn) (ay (aZ 4 O) a_ dZ O (w:=aq r1) O O O (v:=aq r1) O aS<|dN<|uZ<|bh (aZ 4 O) a_ dZ bK O O (v:=aq r1) O<|aK<|goZ hrg<|hQ _ h)))
theorem rc {n:Int} {Q:List Int->Prop} (h:kz n Q) (hQ:∀r1,Q r1->R (am r1) S) :
  Ctr Tryz.prog 195 [iZ n] S R:=by
 refine aH Tryz.func195 rfl Tryz.ntmps195 Tryz.results195 krZ (λrg hrg=>?_)
 refine ah<|asZ .nil O<|nZ<|qZ<|ah<|mvZ (iZ n) O<|ac<|bE O O<|nZ<|cZ h O (λhb h=>?_) (λhb h=>?_)
 ·exact ah<|wZ rg<|bq bp dK cK (es:=[.int .u32 0,.int .u32 2147483648]) O (kk:=1) O O O O O O (λg1=>asZ (.sl 1 rg 5 g1 0<|[0,2147483648].length) O<|aF<|aE (v:=.sl 1 rg 5 g1 0 ([0,2147483648].length)) O<|aK<|br (k:=5) (xs:=List.map (AV.int .u32) [0,2147483648]) O (v':=am [0,2147483648]) (be O)<|goZ hrg<|hQ _ h)
 exact kZ<|ah<|mvZ (iZ n) O<|mvZ (iZ n) O<|tkZ h (λhg h=>ac<|Gx O hg<|ac<|za O O<|ac<|clZ O<|oZ h λr h=>asZ (am r) O<|aF<|gv1 hrg<|hQ _ h)
theorem iK {n:Int} {Q:GRat->Prop} (h:eK n Q) (hQ:∀r1,Q r1->R (aq r1) S) :
  Ctr Tryz.prog 120 [iZ n] S R:=by
 refine aH Tryz.func120 rfl Tryz.ntmps120 Tryz.results120 krZ (λrg hrg=>?_)
 exact ah<|wZ rg<|aU bN dz (kk:=3) O (λg1=>aV<|mvZ (iZ n) O<|ac<|bg O O<|mvZ (iZ n) O<|ac<|clZ O<|rc h λr h=>ac<|clZ O<|jG h λr1 h=>ac<|clZ O<|ea h λr2 h=>ac<|ay (aZ 2 O) a_ dZ O (w:=aq r2) O O O (v:=aq r2) O aS<|aF<|bh (aZ 2 O) a_ dZ bK O O (v:=aq r2) O<|aK<|goZ hrg<|hQ _ h)
end Go.Proofs.YtnjgdkfhgmebjaaGreat
namespace Go.Proofs.YtnjgdkfhgmebjaaGreat
open Go.Gg
set_option maxRecDepth 100000
variable {S:St} {R:AV->St->Prop}
theorem pe {a:List Int} {b:List Int} {Q:Bool->Prop} (h:kX a b Q) (hQ:∀r1,Q r1->R (AV.bool r1) S) :
  Ctr Tryz.prog 101 [am a,am b] S R:=by
 refine aH Tryz.func101 rfl Tryz.ntmps101 Tryz.results101 krZ (λrg hrg=>?_)
 refine ah<|asZ (.bool false) O<|nZ<|qZ<|ah<|mvZ (am a) O<|ac<|aI bp O<|mvZ (am b) O<|ac<|aI bp O<|ac<|de O O<|nZ<|cZ h O (λhb h=>?_) (λhb h=>?_)
 ·exact ah<|asZ (.bool false) O<|aF<|gv1 hrg<|hQ _ h
 refine kZ<|qZ<|ah<|mvZ (am a) O<|ac<|aI bp O<|mvZ (iZ 0) O<|nZ<|bZ<|lpZ h (λy=>a8 [(0,am a),(1,am b),(12,iZ (a.length:Int)),(13,iZ y)]) (λy=>stL S rg []) (canon (aN<|fn)<|sn) (λx _ h=>ah<|ac<|bg O O<|nZ<|qZ<|cZ h O (λhb1 h=>?_) (λhb1 h=>?_))
 ·refine kZ<|qZ<|bZ<|ah<|mvZ (iZ x) O<|asZ (iZ x) O<|nZ<|qZ<|tkZ h (λhg h=>tkZ h (λhg1 h=>Vc.drawn' bC rg (λ_=>fz) krZ<|dP O O<|aA (v:=am a) O<|dP O O<|aA (v:=iZ x) O<|dP O O<|aQ bp bt dZ (λ_=>O) O O hg<|dP O O<|aG bt dv O O (v:=.int .u32 (at' a x)) O<|dP O O<|aA (v:=am b) O<|dP O O<|aA (v:=iZ x) O<|dP O O<|aQ bp bt dZ (λ_=>O) O O hg1<|dP O O<|aG bt dv O O (v:=.int .u32 (at' b x)) O<|dP O O<|de O O<|dN<|cZ h O (λhb2 h=>?_) (λhb2 h=>?_)))
  ·exact ah<|asZ (.bool false) O<|aF<|gv1 hrg<|hQ _ h
  exact kZ<|rZ<|tkZ h (λhg2 h=>ac<|aC O O hg2<|mvZ (iZ<|x+1) O<|nZ<|⟨(x+1),(canon (aN<|fn)<|sn),h⟩)
 exact xsZ<|ah<|asZ (.bool true) O<|aF<|gv1 hrg<|hQ _ h
theorem il {a:GRat} {b:GRat} {Q:Bool->Prop} (h:ge a b Q) (hQ:∀r1,Q r1->R (AV.bool r1) S) :
  Ctr Tryz.prog 40 [aq a,aq b] S R:=by
 refine aH Tryz.func40 rfl Tryz.ntmps40 Tryz.results40 krZ (λrg hrg=>?_)
 refine ah<|wZ rg<|bx (v:=aq a) O O (kk:=3) O dZ (λg1=>wZ rg<|bx (v:=aq b) O O (kk:=3) O dZ (λg2=>asZ (.bool false) O<|aV<|ac<|aD o7 O<|ac<|ae (aZ 2 O) sz4 ag4 O O (v:=.bool a.Neg) O<|ac<|aD o7 O<|ac<|ae (aZ 3 O) sz4 ag4 O O (v:=.bool b.Neg) O<|ac<|Ab td4 O O<|mvZ (.bool<|a.Neg == b.Neg) O<|gtZ h O O (λhb h=>?_) (λhb h=>?_)))
 ·refine ac<|aD iU O<|gTZ O O hb<|ac<|ae (aZ 2 O) i8 jB O O (v:=am a.Num) O<|gTZ O O hb<|ac<|aD iU O<|gTZ O O hb<|ac<|ae (aZ 3 O) i8 jB O O (v:=am b.Num) O<|gTZ O O hb<|ac<|clZ O<|pe h λr h=>ac<|bf O hb (v:=.bool r) O<|mvZ (.bool r) O<|gtZ h O O (λhb1 h=>?_) (λhb1 h=>?_)
  ·exact ac<|aD jN O<|gTZ O O hb1<|ac<|ae (aZ 2 O) i8 jB O O (v:=am a.Den) O<|gTZ O O hb1<|ac<|aD jN O<|gTZ O O hb1<|ac<|ae (aZ 3 O) i8 jB O O (v:=am b.Den) O<|gTZ O O hb1<|ac<|clZ O<|pe h λr1 h=>ac<|bf O hb1 (v:=.bool r1) O<|asZ (.bool r1) O<|aF<|gv1 hrg<|hQ _ h
  exact gFZ O O hb1 O<|gFZ O O hb1 O<|gFZ O O hb1 O<|gFZ O O hb1 O<|ac<|ba O hb1 (v:=.bool false) O<|asZ (.bool false) O<|aF<|gv1 hrg<|hQ _ h
 exact gFZ O O hb O<|gFZ O O hb O<|gFZ O O hb O<|gFZ O O hb O<|ac<|ba O hb (v:=.bool false) O<|mvZ (.bool false) O<|gFZ O O O O<|gFZ O O O O<|gFZ O O O O<|gFZ O O O O<|gFZ O O O O<|ac<|ba O O (v:=.bool false) O<|asZ (.bool false) O<|aF<|gv1 hrg<|hQ _ h
theorem qj {a:List GRat} {b:List GRat} {Q:Bool->Prop} (h:ku a b Q) (hQ:∀r1,Q r1->R (AV.bool r1) S) :
  Ctr Tryz.prog 22 [eL aq a,eL aq b] S R:=by
 refine aH Tryz.func22 rfl Tryz.ntmps22 Tryz.results22 krZ (λrg hrg=>?_)
 refine ah<|asZ (.bool false) O<|nZ<|qZ<|ah<|mvZ (eL aq a) O<|ac<|aI d7 O<|mvZ (eL aq b) O<|ac<|aI d7 O<|ac<|de O O<|nZ<|cZ h O (λhb h=>?_) (λhb h=>?_)
 ·exact ah<|asZ (.bool false) O<|aF<|gv1 hrg<|hQ _ h
 refine kZ<|qZ<|ah<|mvZ (eL aq a) O<|ac<|aI d7 O<|mvZ (iZ 0) O<|nZ<|bZ<|lpZ h (λy=>a8 [(0,eL aq a),(1,eL aq b),(12,iZ (a.length:Int)),(13,iZ y)]) (λy=>stL S rg []) (canon (aN<|fn)<|sn) (λx _ h=>ah<|ac<|bg O O<|nZ<|qZ<|cZ h O (λhb1 h=>?_) (λhb1 h=>?_))
 ·refine kZ<|qZ<|bZ<|ah<|mvZ (iZ x) O<|asZ (iZ x) O<|nZ<|qZ<|tkZ h (λhg h=>tkZ h (λhg1 h=>?_))
  obtain⟨r,hc,h⟩:=h
  refine Vc.drawn' bC rg (fh [(8,pc (.bool r))]) krZ<|dP O O<|aA (v:=eL aq a) O<|dP O O<|aA (v:=iZ x) O<|dP O O<|aQ d7 a_ dZ (λ_=>O) O O hg<|dP O O<|b_ a_ dZ bK O O (v:=aq (at' a x)) O<|dP O O<|aA (v:=eL aq b) O<|dP O O<|aA (v:=iZ x) O<|dP O O<|aQ d7 a_ dZ (λ_=>O) O O hg1<|dP O O<|b_ a_ dZ bK O O (v:=aq (at' b x)) O<|dC (vs:=[aq (at' a x),aq (at' b x)]) O (vZ<|vZ<|vn) (λ_=>il hc (λ_ hr=>⟨by rw[hr],rfl⟩)) O<|dP O O<|gS O<|dN<|cZ h O (λhb2 h=>?_) (λhb2 h=>?_)
  ·exact ah<|asZ (.bool false) O<|aF<|gv1 hrg<|hQ _ h
  exact kZ<|rZ<|tkZ h (λhg2 h=>ac<|aC O O hg2<|mvZ (iZ<|x+1) O<|nZ<|⟨(x+1),(canon (aN<|fn)<|sn),h⟩)
 exact xsZ<|ah<|asZ (.bool true) O<|aF<|gv1 hrg<|hQ _ h
theorem jH {a:GRat} {b:GRat} {Q:GRat->Prop} (h:dV a b Q) (hQ:∀r1,Q r1->R (aq r1) S) :
  Ctr Tryz.prog 121 [aq a,aq b] S R:=by
 refine aH Tryz.func121 rfl Tryz.ntmps121 Tryz.results121 krZ (λrg hrg=>?_)
 exact ah<|wZ rg<|bx (v:=aq a) O O (kk:=3) O dZ (λg1=>wZ rg<|bx (v:=aq b) O O (kk:=3) O dZ (λg2=>wZ rg<|aU bN dz (kk:=3) O (λg3=>aV<|ac<|aw (aZ 2 O) a_ dZ bK O O (v:=aq a) O<|ac<|clZ O<|eV h λr r1 r2 h=>mvZ (.tuple [.bool r,am r1,am r2]) O<|ac<|au (v:=.bool r) O O O<|ac<|au (v:=am r1) O O O<|ac<|au (v:=am r2) O O O<|asZ (.bool r) O<|asZ (am r1) O<|asZ (am r2) O<|aV<|ac<|aw (aZ 3 O) a_ dZ bK O O (v:=aq b) O<|ac<|clZ O<|eV h λr3 r4 r5 h=>mvZ (.tuple [.bool r3,am r4,am r5]) O<|ac<|au (v:=.bool r3) O O O<|ac<|au (v:=am r4) O O O<|ac<|au (v:=am r5) O O O<|asZ (.bool r3) O<|asZ (am r4) O<|asZ (am r5) O<|aV<|mvZ (.bool r) O<|mvZ (.bool r3) O<|ac<|Aa td4 O O<|mvZ (am r1) O<|mvZ (am r4) O<|ac<|clZ O<|gh h λr6 h=>mvZ (am r2) O<|mvZ (am r5) O<|ac<|clZ O<|gh h λr7 h=>ac<|clZ O<|ea h λr8 h=>ac<|ay (aZ 4 O) a_ dZ O (w:=aq r8) O O O (v:=aq r8) O aS<|aF<|bh (aZ 4 O) a_ dZ bK O O (v:=aq r8) O<|aK<|goZ hrg<|hQ _ h)))
theorem mw {a:GRat} {Q:Bool->Prop} (h:iJ a Q) (hQ:∀r1,Q r1->R (AV.bool r1) S) :
  Ctr Tryz.prog 118 [aq a] S R:=by
 refine aH Tryz.func118 rfl Tryz.ntmps118 Tryz.results118 krZ (λrg hrg=>?_)
 refine ah<|wZ rg<|bx (v:=aq a) O O (kk:=3) O dZ (λg1=>asZ (.bool false) O<|aV<|ac<|aw (aZ 1 O) a_ dZ bK O O (v:=aq a) O<|ac<|clZ O<|lO h λr h=>mvZ (.bool r) O<|gtZ h O O (λhb h=>?_) (λhb h=>?_))
 ·refine ac<|aD o7 O<|gTZ O O hb<|ac<|ae (aZ 1 O) sz4 ag4 O O (v:=.bool a.Neg) O<|gTZ O O hb<|ac<|gS O<|ac<|bf O hb (v:=.bool (!a.Neg)) O<|mvZ (.bool<|!a.Neg) O<|gtZ h O O (λhb1 h=>?_) (λhb1 h=>?_)
  ·exact ac<|aD iU O<|gTZ O O hb1<|ac<|ae (aZ 1 O) i8 jB O O (v:=am a.Num) O<|gTZ O O hb1<|ac<|aD jN O<|gTZ O O hb1<|ac<|ae (aZ 1 O) i8 jB O O (v:=am a.Den) O<|gTZ O O hb1<|ac<|clZ O<|gi h λr1 h=>gTZ O O hb1<|ac<|oU O O<|ac<|bf O hb1 (v:=.bool (decide<|r1<=0)) O (asZ (.bool<|decide<|r1<=0) O<|aF<|gv1 hrg<|hQ _ h)
  exact gFZ O O hb1 O<|gFZ O O hb1 O<|gFZ O O hb1 O<|gFZ O O hb1 O<|gFZ O O hb1 O<|ac<|ba O hb1 (v:=.bool false) O<|asZ (.bool false) O<|aF<|gv1 hrg<|hQ _ h
 exact gFZ O O hb O<|gFZ O O hb O<|ac<|ba O hb (v:=.bool false) O<|mvZ (.bool false) O<|gFZ O O O O<|gFZ O O O O<|gFZ O O O O<|gFZ O O O O<|gFZ O O O O<|gFZ O O O O<|ac<|ba O O (v:=.bool false) O<|asZ (.bool false) O<|aF<|gv1 hrg<|hQ _ h
theorem gM {neg:Bool} {num:List Int} {den:List Int} {Q:GRat->Int->Prop} (h:fw neg num den Q) (hQ:∀r1 r2,Q r1 r2->R (.tuple [aq r1,iZ r2]) S) :
  Ctr Tryz.prog 113 [AV.bool neg,am num,am den] S R:=by
 refine aH Tryz.func113 rfl Tryz.ntmps113 Tryz.results113 krZ (λrg hrg=>?_)
 refine ah<|wZ rg<|aU bN dz (kk:=3) O (λg1=>asZ (iZ 0) O<|nZ<|qZ<|ah<|mvZ (am den) O<|ac<|clZ O<|lM h λr h=>ac<|bE O O<|nZ<|cZ h O (λhb h=>?_) (λhb h=>?_))
 ·exact ah<|ac<|bG nf bN kr j7 a_ (ps:=[]) O O (v:=.agg [.bool false,.nil,.nil]) O<|ac<|ay (aZ 6 O) a_ dZ O (w:=.agg [.bool false,.nil,.nil]) O O O (v:=.agg [.bool false,.nil,.nil]) O aS<|asZ (iZ 8) O<|aF<|bh (aZ 6 O) a_ dZ bK O O (v:=.agg [.bool false,.nil,.nil]) O<|aE (v:=iZ 8) O<|aK<|aT hrg (VW.tupL<|vl' (VW.aggL<|vZ<|vl' (VW.nilL)<|vl' (VW.nilL)<|vn)<|vZ<|vn)<|hQ _ _ h
 refine kZ<|qZ<|ah<|mvZ (am num) O<|ac<|clZ O<|lM h λr1 h=>ac<|bE O O<|nZ<|cZ h O (λhb1 h=>?_) (λhb1 h=>?_)
 ·exact ah<|ac<|bG nf bN kr j7 a_ (ps:=[]) O O (v:=.agg [.bool false,.nil,.nil]) O<|ac<|ay (aZ 6 O) a_ dZ O (w:=.agg [.bool false,.nil,.nil]) O O O (v:=.agg [.bool false,.nil,.nil]) O aS<|asZ (iZ 0) O<|aF<|bh (aZ 6 O) a_ dZ bK O O (v:=.agg [.bool false,.nil,.nil]) O<|aE (v:=iZ 0) O<|aK<|aT hrg (VW.tupL<|vl' (VW.aggL<|vZ<|vl' (VW.nilL)<|vl' (VW.nilL)<|vn)<|vZ<|vn)<|hQ _ _ h
 exact kZ<|ah<|mvZ (am num) O<|mvZ (am den) O<|ac<|clZ O<|p_ h λg2 h=>asZ (am g2) O<|aV<|mvZ (am num) O<|mvZ (am g2) O<|ac<|clZ O<|mV h λr2 r3 r4 h=>mvZ (.tuple [am r2,am r3,iZ r4]) O<|ac<|au (v:=am r2) O O O<|ac<|au (v:=am r3) O O O<|ac<|au (v:=iZ r4) O O O<|asZ (am r2) O<|asZ (am r3) O<|asZ (iZ r4) O<|aV<|mvZ (am den) O<|mvZ (am g2) O<|ac<|clZ O<|mV h λr5 r6 r7 h=>mvZ (.tuple [am r5,am r6,iZ r7]) O<|ac<|au (v:=am r5) O O O<|ac<|au (v:=am r6) O O O<|ac<|au (v:=iZ r7) O O O<|asZ (am r5) O<|asZ (am r6) O<|asZ (iZ r7) O<|aV<|mvZ (.bool neg) O<|mvZ (am r2) O<|mvZ (am r5) O<|ac<|bG nf bN kr j7 a_ (ps:=[(0,.bool neg),(1,am r2),(2,am r5)]) O O (v:=.agg [.bool neg,am r2,am r5]) O (ac<|ay (aZ 6 O) a_ dZ O (w:=.agg [.bool neg,am r2,am r5]) O O O (v:=.agg [.bool neg,am r2,am r5]) O aS<|asZ (iZ 0) O<|aF<|bh (aZ 6 O) a_ dZ bK O O (v:=.agg [.bool neg,am r2,am r5]) O<|aE (v:=iZ 0) O<|aK<|aT hrg (VW.tupL<|vZ<|vZ<|vn)<|hQ _ _ h)
theorem oM {n:Int} {Q:List Int->Prop} (h:kO n Q) (hQ:∀r1,Q r1->R (am r1) S) :
  Ctr Tryz.prog 235 [iZ n] S R:=by
 refine aH Tryz.func235 rfl Tryz.ntmps235 Tryz.results235 krZ (λrg hrg=>?_)
 refine ah<|asZ .nil O<|aV<|mvZ (iZ n) O<|ac<|bR td3 cN O<|asZ (.int .u64<|IntKind.wrap .u64 n) O<|nZ<|jnZ h (λy=>a8 [(3,.int .u64 y)]) (λy=>stL S rg []) (λu h=>?_) (λ_ h=>?_)
 ·exact ah<|mvZ (.int .u64 u) O<|ac<|bR cN cG O<|mvZ (.int .u64 u) O<|ac<|im O O dZ<|ac<|bR cN cG O<|wZ rg<|bq bp dK cK (es:=[.int .u32 (IntKind.wrap .u32 u),.int .u32 (IntKind.wrap .u32<|u / 2^(Int.toNat 32))]) O (kk:=1) O O O O O O (λg1=>asZ (.sl 1 rg 15 g1 0<|[(IntKind.wrap .u32 u),(IntKind.wrap .u32<|u / 2^(Int.toNat 32))].length) O<|aF<|aE (v:=.sl 1 rg 15 g1 0 ([(IntKind.wrap .u32 u),(IntKind.wrap .u32<|u / 2^(Int.toNat 32))].length)) O (aK<|br (k:=15) (xs:=List.map (AV.int .u32) [(IntKind.wrap .u32 u),(IntKind.wrap .u32<|u / 2^(Int.toNat 32))]) O (v':=am [(IntKind.wrap .u32 u),(IntKind.wrap .u32<|u / 2^(Int.toNat 32))]) (be O) (goZ hrg<|hQ _ h)))
 refine ah<|mvZ (iZ n) O<|ac<|bg O O<|nZ<|cZ h O (λhb h=>?_) (λhb h=>?_)
 ·exact rZ<|mvZ (.int .u64<|IntKind.wrap .u64 n) O<|ac<|FB O<|stZ h (λu1 hs h=>wZ rg<|aW (v:=.int .u64 u1) (by subst hs;rfl)<|nZ<|⟨u1,(canon (fZ<|fn)<|sn),h⟩)
 exact kZ<|⟨(IntKind.wrap .u64 n),(canon (fZ<|fn)<|sn),h⟩
theorem oO {n:Int} {d:Int} {Q:GRat->Int->Prop} (h:kP n d Q) (hQ:∀r1 r2,Q r1 r2->R (.tuple [aq r1,iZ r2]) S) :
  Ctr Tryz.prog 150 [iZ n,iZ d] S R:=by
 refine aH Tryz.func150 rfl Tryz.ntmps150 Tryz.results150 krZ (λrg hrg=>?_)
 exact ah<|wZ rg<|aU bN dz (kk:=3) O (λg1=>asZ (iZ 0) O<|aV<|mvZ (iZ n) O<|ac<|bg O O<|mvZ (iZ d) O<|ac<|bg O O<|ac<|Aa td4 O O<|mvZ (iZ n) O<|ac<|clZ O<|oM h λr h=>mvZ (iZ d) O<|ac<|clZ O<|oM h λr1 h=>ac<|clZ O<|gM h λr2 r3 h=>ac<|au (v:=aq r2) O O O<|ac<|au (v:=iZ r3) O O O<|ac<|ay (aZ 4 O) a_ dZ O (w:=aq r2) O O O (v:=aq r2) O aS<|asZ (iZ r3) O<|aF<|bh (aZ 4 O) a_ dZ bK O O (v:=aq r2) O<|aE (v:=iZ r3) O<|aK<|aT hrg (VW.tupL<|vZ<|vZ<|vn)<|hQ _ _ h)
theorem nO {n:Int} {Q:GRat->Prop} (h:iR n Q) (hQ:∀r1,Q r1->R (aq r1) S) :
  Ctr Tryz.prog 72 [iZ n] S R:=by
 refine aH Tryz.func72 rfl Tryz.ntmps72 Tryz.results72 krZ (λrg hrg=>?_)
 exact ah<|wZ rg<|aU bN dz (kk:=3) O (λg1=>aV<|mvZ (iZ n) O<|ac<|clZ O<|oO h λr r1 h=>mvZ (.tuple [aq r,iZ r1]) O<|ac<|au (v:=aq r) O O O<|ac<|au (v:=iZ r1) O O O<|wZ rg<|aU bN dz (kk:=3) O (λg2=>ac<|ay (aZ 3 O) a_ dZ O (w:=aq r) O O O (v:=aq r) O aS<|asZ (iZ r1) O<|aV<|ac<|aw (aZ 3 O) a_ dZ bK O O (v:=aq r) O<|ac<|ay (aZ 2 O) a_ dZ O (w:=aq r) O O O (v:=aq r) O aS<|aF<|bh (aZ 2 O) a_ dZ bK O O (v:=aq r) O<|aK<|goZ hrg<|hQ _ h))
theorem iI {a:GRat} {Q:Bool->Prop} (h:iA a Q) (hQ:∀r1,Q r1->R (AV.bool r1) S) :
  Ctr Tryz.prog 117 [aq a] S R:=by
 refine aH Tryz.func117 rfl Tryz.ntmps117 Tryz.results117 krZ (λrg hrg=>?_)
 refine ah<|wZ rg<|bx (v:=aq a) O O (kk:=3) O dZ (λg1=>asZ (.bool false) O<|nZ<|qZ<|Vc.drawn' bC rg (λ_=>fz) krZ<|dP O O<|aD iU O<|dL (E:=([(rg,1)],[])) O O (by simp) (cfn) (ae (aZ 1 O) i8 jB O O (v:=am a.Num) O<|dP O O<|aI bp O<|dP O O<|aD jN O<|dL (E:=([(rg,1)],[])) O O (by simp) (cfa (by simp[aJ])<|cfn) (ae (aZ 1 O) i8 jB O O (v:=am a.Den) O<|dP O O<|aI bp O<|dP O O<|aW (v:=iZ (a.Num.length:Int)) O<|dP O O<|aW (v:=iZ (a.Den.length:Int)) O<|dN<|qZ<|jgZ (γ:=Nat) h (λy=>a8 [(1,.ptr rg 1 y.2 0 0),(3,iZ (a.Num.length:Int)),(4,iZ (a.Den.length:Int)),(16,.bool y.1)]) (λy=>stL S rg [(1,.arr 3 [aq a],y.2)]) (λy h=>?_) (λ_ h=>?_))))
 ·obtain⟨x,g2⟩:=y
  refine cZ h O (λhb h=>?_) (λhb h=>?_)
  ·refine ah<|mvZ (iZ (a.Num.length:Int)) O<|ac<|bE O O<|mvZ (.bool<|(a.Num.length:Int) == 0) O<|gtZ h O O (λhb1 h=>?_) (λhb1 h=>?_)
   ·refine mvZ (iZ (a.Den.length:Int)) O<|gTZ O O hb1<|ac<|bE O O<|ac<|bf O hb1 (v:=.bool ((a.Den.length:Int) == 0)) O (mvZ (.bool<|(a.Den.length:Int) == 0) O<|gtZ h O O (λhb2 h=>?_) (λhb2 h=>?_))
    ·exact ac<|aD o7 O<|gTZ O O hb2<|ac<|ae (aZ 1 O) sz4 ag4 O O (v:=.bool a.Neg) O<|gTZ O O hb2<|ac<|gS O<|ac<|bf O hb2 (v:=.bool (!a.Neg)) O<|asZ (.bool<|!a.Neg) O<|aF<|gv1 hrg<|hQ _ h
    exact gFZ O O hb2 O<|gFZ O O hb2 O<|ac<|ba O hb2 (v:=.bool false) O<|asZ (.bool false) O<|aF<|gv1 hrg<|hQ _ h
   exact gFZ O O hb1 O<|ac<|ba O hb1 (v:=.bool false) O<|mvZ (.bool false) O<|gFZ O O O O<|gFZ O O O O<|gFZ O O O O<|ac<|ba O O (v:=.bool false) O<|asZ (.bool false) O<|aF<|gv1 hrg<|hQ _ h
  refine kZ<|ah<|ac<|aD iU O<|ac<|ae (aZ 1 O) i8 jB O O (v:=am a.Num) O<|mvZ (iZ (a.Num.length:Int)) O<|tkZ h (λhg h=>ac<|bQ O O hg<|tkZ h (λhg1 h=>ac<|aQ bp bt dZ (λ_=>O) O O hg1<|ac<|aG bt dv O O (v:=.int .u32 (at' a.Num<|(a.Num.length:Int)-1)) O (ac<|de O O<|mvZ (.bool<|(at' a.Num<|(a.Num.length:Int)-1) != 0) O (gtZ h O O (λhb3 h=>?_) (λhb3 h=>?_)))))
  ·refine ac<|aD jN O<|gTZ O O hb3<|ac<|ae (aZ 1 O) i8 jB O O (v:=am a.Den) O<|gTZ O O hb3<|mvZ (iZ (a.Den.length:Int)) O<|gTZ O O hb3<|tkZ h (λhg2 h=>ac<|bQ O O hg2<|gTZ O O hb3<|tkZ h (λhg3 h=>ac<|aQ bp bt dZ (λ_=>O) O O hg3<|gTZ O O hb3<|ac<|aG bt dv O O (v:=.int .u32 (at' a.Den<|(a.Den.length:Int)-1)) O (gTZ O O hb3<|ac<|de O O<|ac<|bf O hb3 (v:=.bool ((at' a.Den<|(a.Den.length:Int)-1) != 0)) O (mvZ (.bool<|(at' a.Den<|(a.Den.length:Int)-1) != 0) O (gtZ h O O (λhb4 h=>?_) (λhb4 h=>?_))))))
   ·exact ac<|aD iU O<|gTZ O O hb4<|ac<|ae (aZ 1 O) i8 jB O O (v:=am a.Num) O<|gTZ O O hb4<|ac<|aD jN O<|gTZ O O hb4<|ac<|ae (aZ 1 O) i8 jB O O (v:=am a.Den) O<|gTZ O O hb4<|ac<|clZ O<|p_ h λr h=>gTZ O O hb4<|ac<|clZ O<|lM h λr1 h=>gTZ O O hb4<|ac<|bE O O<|ac<|bf O hb4 (v:=.bool (r1 == 1)) O<|asZ (.bool<|r1 == 1) O<|aF<|gv1 hrg<|hQ _ h
   exact gFZ O O hb4 O<|gFZ O O hb4 O<|gFZ O O hb4 O<|gFZ O O hb4 O<|gFZ O O hb4 O<|gFZ O O hb4 O<|ac<|ba O hb4 (v:=.bool false) O<|asZ (.bool false) O<|aF<|gv1 hrg<|hQ _ h
  exact gFZ O O hb3 O<|gFZ O O hb3 O<|gFZ O O hb3 O<|gFZ O O hb3 O<|gFZ O O hb3 O<|gFZ O O hb3 O<|ac<|ba O hb3 (v:=.bool false) O<|mvZ (.bool false) O<|gFZ O O O O<|gFZ O O O O<|gFZ O O O O<|gFZ O O O O<|gFZ O O O O<|gFZ O O O O<|gFZ O O O O<|ac<|ba O O (v:=.bool false) O<|asZ (.bool false) O<|aF<|gv1 hrg<|hQ _ h
 refine rZ<|mvZ (iZ (a.Num.length:Int)) O<|ac<|bE O O<|mvZ (.bool<|(a.Num.length:Int) == 0) O<|gfZ h O O (λhb5 h=>?_) (λhb5 h=>?_)
 ·exact mvZ (iZ (a.Den.length:Int)) O<|gTZ O O hb5<|ac<|bE O O<|ac<|ba O hb5 (v:=.bool ((a.Den.length:Int) == 0)) O (nZ<|⟨(((a.Den.length:Int) == 0),g1),(canon (aN<|fn)<|sc O<|sn),h⟩)
 exact gFZ O O hb5 O<|ac<|bf O hb5 (v:=.bool true) O<|nZ<|⟨(true,g1),(canon (aN<|fn)<|sc O<|sn),h⟩
theorem fl {a:GRat} {Q:Bool->List Int->List Int->Prop} (h:eJ a Q) (hQ:∀r1 r2 r3,Q r1 r2 r3->R (.tuple [AV.bool r1,am r2,am r3]) S) :
  Ctr Tryz.prog 103 [aq a] S R:=by
 refine aH Tryz.func103 rfl Tryz.ntmps103 Tryz.results103 krZ (λrg hrg=>?_)
 refine ah<|wZ rg<|bx (v:=aq a) O O (kk:=3) O dZ (λg1=>asZ (.bool false) O<|asZ .nil O<|asZ .nil O<|nZ<|qZ<|jgZ (γ:=Nat) h (λy=>a8 [(1,.ptr rg 1 y.2 0 0),(13,.bool y.1)]) (λy=>stL S rg [(1,.arr 3 [aq a],y.2)]) (λy h=>?_) (λ_ h=>?_))
 ·obtain⟨x,g2⟩:=y
  refine cZ h O (λhb h=>?_) (λhb h=>?_)
  ·exact ah<|wZ rg<|bq bp dK cK (es:=[.int .u32 1]) O (kk:=1) O O O O O O (λg3=>asZ (.bool false) O<|asZ .nil O<|asZ (.sl 1 rg 14 g3 0<|[1].length) O<|aF<|aE (v:=.bool false) O<|aE (v:=.nil) O<|aE (v:=.sl 1 rg 14 g3 0 ([1].length)) O<|aK<|br (k:=14) (xs:=List.map (AV.int .u32) [1]) O (v':=.tuple [.bool false,.nil,am [1]]) (VW.tupL<|vZ<|vZ<|vl' (be O)<|vn)<|aT hrg (VW.tupL<|vZ<|vl' (VW.nilL)<|vZ<|vn)<|hQ _ _ _ h)
  exact kZ<|qZ<|Vc.drawn' bC rg (λ_=>fz) krZ<|dP O O<|aD o7 O<|dL (E:=([(rg,1)],[])) O O (by simp) (cfn) (ae (aZ 1 O) sz4 ag4 O O (v:=.bool a.Neg) O<|dP O O<|aD iU O<|dL (E:=([(rg,1)],[])) O O (by simp) (cfa (by simp[aJ])<|cfn) (ae (aZ 1 O) i8 jB O O (v:=am a.Num) O<|dP O O<|aD jN O<|dL (E:=([(rg,1)],[])) O O (by simp) (cfa (by simp[aJ])<|cfa (by simp[aJ])<|cfn) (ae (aZ 1 O) i8 jB O O (v:=am a.Den) O<|dP O O<|aW (v:=.bool a.Neg) O<|dP O O<|aW (v:=am a.Num) O<|dP O O<|aW (v:=am a.Den) O<|dN<|uZ<|aE (v:=.bool a.Neg) O<|aE (v:=am a.Num) O<|aE (v:=am a.Den) O<|aK<|aT hrg (VW.tupL<|vZ<|vZ<|vZ<|vn)<|hQ _ _ _ h)))
 refine rZ<|ac<|aw (aZ 1 O) a_ dZ bK O O (v:=aq a) O<|ac<|clZ O<|iI h λr h=>ac<|gS O<|mvZ (.bool<|!r) O<|gfZ h O O (λhb1 h=>?_) (λhb1 h=>?_)
 ·exact ac<|aD iU O<|gTZ O O hb1<|ac<|ae (aZ 1 O) i8 jB O O (v:=am a.Num) O<|gTZ O O hb1<|ac<|aI bp O<|gTZ O O hb1<|ac<|bE O O<|ac<|ba O hb1 (v:=.bool ((a.Num.length:Int) == 0)) O (nZ<|⟨(((a.Num.length:Int) == 0),g1),(canon (fZ<|fZ<|fn)<|sc O<|sn),h⟩)
 exact gFZ O O hb1 O<|gFZ O O hb1 O<|gFZ O O hb1 O<|ac<|bf O hb1 (v:=.bool true) O<|nZ<|⟨(true,g1),(canon (fZ<|fZ<|fn)<|sc O<|sn),h⟩
theorem lL {a:GRat} {Q:Int->Prop} (h:h9 a Q) (hQ:∀r1,Q r1->R (iZ r1) S) :
  Ctr Tryz.prog 43 [aq a] S R:=by
 refine aH Tryz.func43 rfl Tryz.ntmps43 Tryz.results43 krZ (λrg hrg=>?_)
 refine ah<|wZ rg<|bx (v:=aq a) O O (kk:=3) O dZ (λg1=>asZ (iZ 0) O<|aV<|ac<|aw (aZ 1 O) a_ dZ bK O O (v:=aq a) O<|ac<|clZ O<|fl h λr r1 r2 h=>mvZ (.tuple [.bool r,am r1,am r2]) O<|ac<|au (v:=.bool r) O O O<|ac<|au (v:=am r1) O O O<|ac<|au (v:=am r2) O O O<|asZ (.bool r) O<|asZ (am r1) O<|asZ (am r2) O<|nZ<|qZ<|ah<|mvZ (am r1) O<|ac<|aI bp O<|ac<|bE O O<|nZ<|cZ h O (λhb h=>?_) (λhb h=>?_))
 ·exact ah<|asZ (iZ 0) O<|aF<|gv1 hrg<|hQ _ h
 refine kZ<|qZ<|ah<|mvZ (.bool r) O<|nZ<|cZ h O (λhb1 h=>?_) (λhb1 h=>?_)
 ·exact ah<|asZ (iZ<|-1) O<|aF<|gv1 hrg<|hQ _ h
 exact kZ<|ah<|asZ (iZ 1) O<|aF<|gv1 hrg<|hQ _ h
theorem mT {a:GRat} {b:GRat} {Q:GRat->Prop} (h:gN a b Q) (hQ:∀r1,Q r1->R (aq r1) S) :
  Ctr Tryz.prog 50 [aq a,aq b] S R:=by
 refine aH Tryz.func50 rfl Tryz.ntmps50 Tryz.results50 krZ (λrg hrg=>?_)
 refine ah<|wZ rg<|bx (v:=aq a) O O (kk:=3) O dZ (λg1=>wZ rg<|bx (v:=aq b) O O (kk:=3) O dZ (λg2=>wZ rg<|aU bN dz (kk:=3) O (λg3=>aV<|ac<|aw (aZ 2 O) a_ dZ bK O O (v:=aq a) O<|ac<|clZ O<|fl h λr r1 r2 h=>mvZ (.tuple [.bool r,am r1,am r2]) O<|ac<|au (v:=.bool r) O O O<|ac<|au (v:=am r1) O O O<|ac<|au (v:=am r2) O O O<|asZ (.bool r) O<|asZ (am r1) O<|asZ (am r2) O<|aV<|ac<|aw (aZ 3 O) a_ dZ bK O O (v:=aq b) O<|ac<|clZ O<|fl h λr3 r4 r5 h=>mvZ (.tuple [.bool r3,am r4,am r5]) O<|ac<|au (v:=.bool r3) O O O<|ac<|au (v:=am r4) O O O<|ac<|au (v:=am r5) O O O<|asZ (.bool r3) O<|asZ (am r4) O<|asZ (am r5) O<|aV<|mvZ (am r1) O<|mvZ (am r5) O<|ac<|clZ O<|gp h λx h=>mvZ (am r4) O<|mvZ (am r2) O<|ac<|clZ O<|gp h λy1 h=>mvZ (am r2) O<|mvZ (am r5) O<|ac<|clZ O<|gp h λden h=>asZ (am x) O<|asZ (am y1) O<|asZ (am den) O<|nZ<|qZ<|ah<|mvZ (.bool r) O<|mvZ (.bool r3) O<|ac<|Ab td4 O O<|nZ<|cZ h O (λhb h=>?_) (λhb h=>?_))))
 ·exact ah<|mvZ (.bool r) O<|mvZ (am x) O<|mvZ (am y1) O<|ac<|clZ O<|wz h λr6 h=>mvZ (am den) O<|ac<|clZ O<|gM h λr7 r8 h=>mvZ (.tuple [aq r7,iZ r8]) O<|ac<|au (v:=aq r7) O O O<|ac<|au (v:=iZ r8) O O O<|wZ rg<|aU bN dz (kk:=3) O (λg4=>ac<|ay (aZ 14 O) a_ dZ O (w:=aq r7) O O O (v:=aq r7) O aS<|asZ (iZ r8) O<|aV<|ac<|aw (aZ 14 O) a_ dZ bK O O (v:=aq r7) O<|ac<|ay (aZ 4 O) a_ dZ O (w:=aq r7) O O O (v:=aq r7) O aS<|aF<|bh (aZ 4 O) a_ dZ bK O O (v:=aq r7) O<|aK<|goZ hrg<|hQ _ h)
 refine kZ<|jgZ (γ:=Nat) h (λy=>a8 [(4,.ptr rg 4 y.2 0 0),(5,.bool y.1.1),(11,am y.1.2.1),(12,am y.1.2.2),(13,am den)]) (λy=>stL S rg [(4,.arr 3 [.agg [.bool false,.nil,.nil]],y.2)]) (λy h=>?_) (λ_ h=>?_)
 ·obtain⟨⟨s,x1,y2⟩,g5⟩:=y
  exact ah<|mvZ (am x1) O<|mvZ (am y2) O<|ac<|clZ O<|mU h λr9 r10 h=>mvZ (.tuple [am r9,iZ r10]) O<|ac<|au (v:=am r9) O O O<|ac<|au (v:=iZ r10) O O O<|asZ (am r9) O<|asZ (iZ r10) O<|aV<|mvZ (.bool s) O<|mvZ (am r9) O<|mvZ (am den) O<|ac<|clZ O<|gM h λr11 r12 h=>mvZ (.tuple [aq r11,iZ r12]) O<|ac<|au (v:=aq r11) O O O<|ac<|au (v:=iZ r12) O O O<|wZ rg<|aU bN dz (kk:=3) O (λg6=>ac<|ay (aZ 18 O) a_ dZ O (w:=aq r11) O O O (v:=aq r11) O aS<|asZ (iZ r12) O<|aV<|ac<|aw (aZ 18 O) a_ dZ bK O O (v:=aq r11) O<|ac<|ay (aZ 4 O) a_ dZ O (w:=aq r11) O O O (v:=aq r11) O aS<|aF<|bh (aZ 4 O) a_ dZ bK O O (v:=aq r11) O<|aK<|goZ hrg<|hQ _ h)
 refine ah<|mvZ (am x) O<|mvZ (am y1) O<|ac<|clZ O<|mW h λr13 h=>ac<|bg O O<|nZ<|cZ h O (λhb1 h=>?_) (λhb1 h=>?_)
 ·exact rZ<|mvZ (.bool r3) O<|mvZ (am y1) O<|mvZ (am x) O<|asZ (.bool r3) O<|asZ (am y1) O<|asZ (am x) O<|nZ<|⟨((r3,y1,x),g3),(canon (aN<|fZ<|fn)<|sc O<|sn),h⟩
 exact kZ<|⟨((r,x,y1),g3),(canon (aN<|fZ<|fn)<|sc O<|sn),h⟩
theorem wx {a:GRat} {Q:GRat->Prop} (h:oN a Q) (hQ:∀r1,Q r1->R (aq r1) S) :
  Ctr Tryz.prog 100 [aq a] S R:=by
 refine aH Tryz.func100 rfl Tryz.ntmps100 Tryz.results100 krZ (λrg hrg=>?_)
 exact ah<|wZ rg<|bx (v:=aq a) O O (kk:=3) O dZ (λg1=>wZ rg<|aU bN dz (kk:=3) O (λg2=>aV<|ac<|aw (aZ 1 O) a_ dZ bK O O (v:=aq a) O<|ac<|clZ O<|fl h λr r1 r2 h=>mvZ (.tuple [.bool r,am r1,am r2]) O<|ac<|au (v:=.bool r) O O O<|ac<|au (v:=am r1) O O O<|ac<|au (v:=am r2) O O O<|asZ (.bool r) O<|asZ (am r1) O<|asZ (am r2) O<|aV<|mvZ (.bool r) O<|ac<|gS O<|mvZ (am r1) O<|mvZ (am r2) O<|ac<|clZ O<|gM h λr3 r4 h=>mvZ (.tuple [aq r3,iZ r4]) O<|ac<|au (v:=aq r3) O O O<|ac<|au (v:=iZ r4) O O O<|wZ rg<|aU bN dz (kk:=3) O (λg3=>ac<|ay (aZ 6 O) a_ dZ O (w:=aq r3) O O O (v:=aq r3) O aS<|asZ (iZ r4) O<|aV<|ac<|aw (aZ 6 O) a_ dZ bK O O (v:=aq r3) O<|ac<|ay (aZ 2 O) a_ dZ O (w:=aq r3) O O O (v:=aq r3) O aS<|aF<|bh (aZ 2 O) a_ dZ bK O O (v:=aq r3) O<|aK<|goZ hrg<|hQ _ h)))
theorem p8 {a:GRat} {b:GRat} {Q:GRat->Prop} (h:i0 a b Q) (hQ:∀r1,Q r1->R (aq r1) S) :
  Ctr Tryz.prog 38 [aq a,aq b] S R:=by
 refine aH Tryz.func38 rfl Tryz.ntmps38 Tryz.results38 krZ (λrg hrg=>?_)
 refine ah<|wZ rg<|bx (v:=aq a) O O (kk:=3) O dZ (λg1=>wZ rg<|bx (v:=aq b) O O (kk:=3) O dZ (λg2=>wZ rg<|aU bN dz (kk:=3) O (λg3=>nZ<|qZ ?_)))
 obtain⟨r,hc,h⟩:=h
 obtain⟨r1,hc1,h⟩:=h
 exact Vc.drawn' bC rg (fh [(2,pc (aq r)),(3,pc (aq r1))]) krZ<|dL (E:=([(rg,2)],[])) O O (by simp) (cfn) (aw (aZ 2 O) a_ dZ bK O O (v:=aq a) O<|dL (E:=([(rg,3)],[])) O O (by simp) (cfa (by simp[aJ])<|cfn) (aw (aZ 3 O) a_ dZ bK O O (v:=aq b) O<|dC (vs:=[aq b]) O (vZ<|vn) (λ_=>wx hc (λ_ hr=>⟨by rw[hr],rfl⟩)) O<|dC (vs:=[aq a,aq r]) O (vZ<|vZ<|vn) (λ_=>mT hc1 (λ_ hr=>⟨by rw[hr],rfl⟩)) O<|dL (E:=([],[(rg,4)])) O O (by simp) (cfo krZ<|cfo krZ<|cfn) (ay (aZ 4 O) a_ dZ O (w:=aq r1) O O O (v:=aq r1) O aS<|dN<|uZ<|bh (aZ 4 O) a_ dZ bK O O (v:=aq r1) O<|aK<|goZ hrg<|hQ _ h)))
theorem wy {a:GRat} {b:GRat} {Q:Int->Prop} (h:j9 a b Q) (hQ:∀r1,Q r1->R (iZ r1) S) :
  Ctr Tryz.prog 44 [aq a,aq b] S R:=by
 refine aH Tryz.func44 rfl Tryz.ntmps44 Tryz.results44 krZ (λrg hrg=>?_)
 exact ah<|wZ rg<|bx (v:=aq a) O O (kk:=3) O dZ (λg1=>wZ rg<|bx (v:=aq b) O O (kk:=3) O dZ (λg2=>asZ (iZ 0) O<|aV<|ac<|aw (aZ 2 O) a_ dZ bK O O (v:=aq a) O<|ac<|aw (aZ 3 O) a_ dZ bK O O (v:=aq b) O<|ac<|clZ O<|p8 h λr h=>ac<|clZ O<|lL h λr1 h=>asZ (iZ r1) O<|aF<|gv1 hrg<|hQ _ h))
theorem uP {a:GRat} {Q:Bool->Prop} (h:nN a Q) (hQ:∀r1,Q r1->R (AV.bool r1) S) :
  Ctr Tryz.prog 51 [aq a] S R:=by
 refine aH Tryz.func51 rfl Tryz.ntmps51 Tryz.results51 krZ (λrg hrg=>?_)
 refine ah<|wZ rg<|bx (v:=aq a) O O (kk:=3) O dZ (λg1=>asZ (.bool false) O<|nZ<|qZ ?_)
 obtain⟨r,hc,h⟩:=h
 refine bcZ h (λhb h=>?_) (λhb h=>?_)
 ·obtain⟨r1,hc1,h⟩:=h
  refine bcZ h (λhb1 h=>?_) (λhb1 h=>?_)
  ·obtain⟨r2,hc2,h⟩:=h
   obtain⟨r3,hc3,h⟩:=h
   exact Vc.drawn' bC rg (fh [(1,pc (.bool r)),(4,pc (iZ r1)),(9,pc (aq r2)),(10,pc (iZ r3))]) krZ<|dL (E:=([(rg,1)],[])) O O (by simp) (cfn) (aw (aZ 1 O) a_ dZ bK O O (v:=aq a) O<|dC (vs:=[aq a]) O (vZ<|vn) (λ_=>iI hc (λ_ hr=>⟨by rw[hr],rfl⟩)) O<|dP O O<|aA (v:=.bool r) O<|dGT O O hb<|dL (E:=([(rg,1)],[])) O O (by simp) (cfo krZ<|cfn) (aw (aZ 1 O) a_ dZ bK O O (v:=aq a) O<|dGT O O O<|dC (vs:=[aq a]) O (vZ<|vn) (λ_=>lL hc1 (λ_ hr=>⟨by rw[hr],rfl⟩)) O<|dGT O O O<|dP O O<|fk O O<|dP O O<|bf O O (v:=.bool (decide<|0<=r1)) O (dP O O<|aA (v:=.bool (decide<|0<=r1)) O (dGT O O hb1<|dL (E:=([(rg,1)],[])) O O (by simp) (cfo krZ<|cfo krZ<|cfn) (aw (aZ 1 O) a_ dZ bK O O (v:=aq a) O<|dGT O O O<|dC (vs:=[iZ 1]) O (vZ<|vn) (λ_=>nO hc2 (λ_ hr=>⟨by rw[hr],rfl⟩)) O<|dGT O O O<|dC (vs:=[aq a,aq r2]) O (vZ<|vZ<|vn) (λ_=>wy hc3 (λ_ hr=>⟨by rw[hr],rfl⟩)) O<|dGT O O O<|dP O O<|oU O O<|dP O O<|bf O O (v:=.bool (decide<|r3<=0)) O (dP O O<|aW (v:=.bool (decide<|r3<=0)) O (dN<|uZ<|gv1 hrg<|hQ _ h)))))))
  exact Vc.drawn' bC rg (fh [(1,pc (.bool r)),(4,pc (iZ r1))]) krZ<|dL (E:=([(rg,1)],[])) O O (by simp) (cfn) (aw (aZ 1 O) a_ dZ bK O O (v:=aq a) O<|dC (vs:=[aq a]) O (vZ<|vn) (λ_=>iI hc (λ_ hr=>⟨by rw[hr],rfl⟩)) O<|dP O O<|aA (v:=.bool r) O<|dGT O O hb<|dL (E:=([(rg,1)],[])) O O (by simp) (cfo krZ<|cfn) (aw (aZ 1 O) a_ dZ bK O O (v:=aq a) O<|dGT O O O<|dC (vs:=[aq a]) O (vZ<|vn) (λ_=>lL hc1 (λ_ hr=>⟨by rw[hr],rfl⟩)) O<|dGT O O O<|dP O O<|fk O O<|dP O O<|bf O O (v:=.bool (decide<|0<=r1)) O (dP O O<|aA (v:=.bool (decide<|0<=r1)) O (dGF O O hb1 O<|dGF O O O O<|dGF O O O O<|dGF O O O O<|dP O O<|ba O O (v:=.bool false) O<|dP O O<|aW (v:=.bool false) O<|dN<|uZ<|gv1 hrg<|hQ _ h))))
 exact Vc.drawn' bC rg (fh [(1,pc (.bool r))]) krZ<|dL (E:=([(rg,1)],[])) O O (by simp) (cfn) (aw (aZ 1 O) a_ dZ bK O O (v:=aq a) O<|dC (vs:=[aq a]) O (vZ<|vn) (λ_=>iI hc (λ_ hr=>⟨by rw[hr],rfl⟩)) O<|dP O O<|aA (v:=.bool r) O<|dGF O O hb O<|dGF O O O O<|dGF O O O O<|dP O O<|ba O O (v:=.bool false) O<|dP O O<|aA (v:=.bool false) O<|dGF O O O O<|dGF O O O O<|dGF O O O O<|dGF O O O O<|dP O O<|ba O O (v:=.bool false) O<|dP O O<|aW (v:=.bool false) O<|dN<|uZ<|gv1 hrg<|hQ _ h)
theorem p9 {a:GRat} {b:GRat} {Q:GRat->Prop} (h:i2 a b Q) (hQ:∀r1,Q r1->R (aq r1) S) :
  Ctr Tryz.prog 124 [aq a,aq b] S R:=by
 refine aH Tryz.func124 rfl Tryz.ntmps124 Tryz.results124 krZ (λrg hrg=>?_)
 refine ah<|wZ rg<|bx (v:=aq a) O O (kk:=3) O dZ (λg1=>wZ rg<|bx (v:=aq b) O O (kk:=3) O dZ (λg2=>wZ rg<|aU bN dz (kk:=3) O (λg3=>aV<|ac<|aw (aZ 2 O) a_ dZ bK O O (v:=aq a) O<|ac<|clZ O<|fl h λr r1 r2 h=>mvZ (.tuple [.bool r,am r1,am r2]) O<|ac<|au (v:=.bool r) O O O<|ac<|au (v:=am r1) O O O<|ac<|au (v:=am r2) O O O<|asZ (.bool r) O<|asZ (am r1) O<|asZ (am r2) O<|aV<|ac<|aw (aZ 3 O) a_ dZ bK O O (v:=aq b) O<|ac<|clZ O<|fl h λr3 r4 r5 h=>mvZ (.tuple [.bool r3,am r4,am r5]) O<|ac<|au (v:=.bool r3) O O O<|ac<|au (v:=am r4) O O O<|ac<|au (v:=am r5) O O O<|asZ (.bool r3) O<|asZ (am r4) O<|asZ (am r5) O<|aV<|mvZ (.bool r) O<|mvZ (.bool r3) O<|ac<|Aa td4 O O<|mvZ (am r1) O<|mvZ (am r4) O<|ac<|clZ O<|gp h λr6 h=>mvZ (am r2) O<|mvZ (am r5) O<|ac<|clZ O<|gp h λr7 h=>ac<|clZ O<|gM h λr8 r9 h=>mvZ (.tuple [aq r8,iZ r9]) O<|ac<|au (v:=aq r8) O O O<|ac<|au (v:=iZ r9) O O O<|wZ rg<|aU bN dz (kk:=3) O (λg4=>ac<|ay (aZ 11 O) a_ dZ O (w:=aq r8) O O O (v:=aq r8) O aS<|asZ (iZ r9) O<|nZ<|qZ<|rZ ?_))))
 exact ac<|aw (aZ 11 O) a_ dZ bK O O (v:=aq r8) O<|ac<|ay (aZ 4 O) a_ dZ O (w:=aq r8) O O O (v:=aq r8) O aS<|aF<|bh (aZ 4 O) a_ dZ bK O O (v:=aq r8) O<|aK<|goZ hrg<|hQ _ h
theorem oc {err:Option Int} {Q:Int->Prop} (h:gZ err Q) (hQ:∀r1,Q r1->R (iZ r1) S) :
  Ctr Tryz.prog 20 [a9 82 err] S R:=by
 refine aH Tryz.func20 rfl Tryz.ntmps20 Tryz.results20 krZ (λrg hrg=>?_)
 refine ah<|asZ (iZ 0) O<|nZ<|qZ<|ah<|mvZ (a9 82 err) O<|ac<|jV gu (E:=82) O O O<|nZ<|cZ h O (λhb h=>?_) (λhb h=>?_)
 ·exact ah<|asZ (iZ 0) O<|aF<|gv1 hrg<|hQ _ h
 refine kZ<|qZ<|ah<|mvZ (a9 82 err) O<|ac<|B7 iv Ic G7 O<|mvZ (.tuple [iZ (Option.getD err 0),.bool (Option.isSome err)]) O<|ac<|au (v:=iZ (Option.getD err 0)) O O O<|ac<|au (v:=.bool (Option.isSome err)) O O O<|asZ (iZ<|Option.getD err 0) O<|asZ (.bool<|Option.isSome err) O<|aV<|mvZ (.bool<|Option.isSome err) O<|nZ<|cZ h O (λhb1 h=>?_) (λhb1 h=>?_)
 ·exact ah<|mvZ (iZ<|Option.getD err 0) O<|asZ (iZ<|Option.getD err 0) O<|aF<|gv1 hrg<|hQ _ h
 exact kZ<|ah<|asZ (iZ<|-1) O<|aF<|gv1 hrg<|hQ _ h
theorem wJ {a:List Int} {b:List Int} {Q:Bool->Prop} (h:pg a b Q) (hQ:∀r1,Q r1->R (AV.bool r1) S) :
  Ctr Tryz.prog 66 [bd a,bd b] S R:=by
 refine aH Tryz.func66 rfl Tryz.ntmps66 Tryz.results66 krZ (λrg hrg=>?_)
 refine ah<|asZ (.bool false) O<|nZ<|qZ<|ah<|mvZ (bd a) O<|ac<|aI bA O<|mvZ (bd b) O<|ac<|aI bA O<|ac<|de O O<|nZ<|cZ h O (λhb h=>?_) (λhb h=>?_)
 ·exact ah<|asZ (.bool false) O<|aF<|gv1 hrg<|hQ _ h
 refine kZ<|qZ<|ah<|mvZ (bd a) O<|ac<|aI bA O<|mvZ (iZ 0) O<|nZ<|bZ<|lpZ h (λy=>a8 [(0,bd a),(1,bd b),(12,iZ (a.length:Int)),(13,iZ y)]) (λy=>stL S rg []) (canon (aN<|fn)<|sn) (λx _ h=>ah<|ac<|bg O O<|nZ<|qZ<|cZ h O (λhb1 h=>?_) (λhb1 h=>?_))
 ·refine kZ<|qZ<|bZ<|ah<|mvZ (iZ x) O<|asZ (iZ x) O<|nZ<|qZ<|tkZ h (λhg h=>tkZ h (λhg1 h=>Vc.drawn' bC rg (λ_=>fz) krZ<|dP O O<|aA (v:=bd a) O<|dP O O<|aA (v:=iZ x) O<|dP O O<|aQ bA sz3 dZ (λ_=>O) O O hg<|dP O O<|aG sz3 ag3 O O (v:=iZ (at' a x)) O<|dP O O<|aA (v:=bd b) O<|dP O O<|aA (v:=iZ x) O<|dP O O<|aQ bA sz3 dZ (λ_=>O) O O hg1<|dP O O<|aG sz3 ag3 O O (v:=iZ (at' b x)) O<|dP O O<|de O O<|dN<|cZ h O (λhb2 h=>?_) (λhb2 h=>?_)))
  ·exact ah<|asZ (.bool false) O<|aF<|gv1 hrg<|hQ _ h
  exact kZ<|rZ<|tkZ h (λhg2 h=>ac<|aC O O hg2<|mvZ (iZ<|x+1) O<|nZ<|⟨(x+1),(canon (aN<|fn)<|sn),h⟩)
 exact xsZ<|ah<|asZ (.bool true) O<|aF<|gv1 hrg<|hQ _ h
end Go.Proofs.YtnjgdkfhgmebjaaGreat
namespace Go.Proofs.YtnjgdkfhgmebjaaGreat
open Go.Gg
set_option maxRecDepth 100000
variable {S:St} {R:AV->St->Prop}
theorem oE {kind:Int} {n:Int} {Q:Bool->Prop} (h:ir kind n Q) (hQ:∀r1,Q r1->R (AV.bool r1) S) :
  Ctr Tryz.prog 156 [iZ kind,iZ n] S R:=by
 refine aH Tryz.func156 rfl Tryz.ntmps156 Tryz.results156 krZ (λrg hrg=>?_)
 refine ah<|asZ (.bool false) O<|nZ<|qZ<|ah<|mvZ (iZ kind) O<|nZ<|bZ<|ah<|ac<|bE O O<|asZ (.bool<|kind == 0) O<|nZ<|cZ h O (λhb h=>?_) (λhb h=>?_)
 ·exact ah<|mvZ (iZ n) O<|ac<|bE O O<|asZ (.bool<|n == 0) O<|aF<|gv1 hrg<|hQ _ h
 refine ah<|ac<|bE O O<|asZ (.bool<|kind == 1) O<|nZ<|cZ h O (λhb1 h=>?_) (λhb1 h=>?_)
 ·exact ah<|mvZ (iZ n) O<|ac<|bE O O<|asZ (.bool<|n == 1) O<|aF<|gv1 hrg<|hQ _ h
 refine kZ<|ah<|mvZ (iZ n) O<|ac<|fk O O<|mvZ (.bool<|decide<|1<=n) O<|gtZ h O O (λhb2 h=>?_) (λhb2 h=>?_)
 ·exact mvZ (iZ n) O<|gTZ O O hb2<|ac<|oU O O<|ac<|bf O hb2 (v:=.bool (decide<|n<=16)) O (asZ (.bool<|decide<|n<=16) O<|aF<|gv1 hrg<|hQ _ h)
 exact gFZ O O hb2 O<|ac<|ba O hb2 (v:=.bool false) O<|asZ (.bool false) O<|aF<|gv1 hrg<|hQ _ h
theorem oD {f:GFormula} {i:Int} {Q:Option Int->Prop} (h:iq f i Q) (hQ:∀r1,Q r1->R (a9 82 r1) S) :
  Ctr Tryz.prog 78 [ak f,iZ i] S R:=by
 refine aH Tryz.func78 rfl Tryz.ntmps78 Tryz.results78 krZ (λrg hrg=>?_)
 refine ah<|wZ rg<|bx (v:=ak f) O O (kk:=3) O dZ (λg1=>asZ .niface O<|aV<|ac<|aD bD O<|ac<|ae (aZ 2 O) db dD O O (v:=eL aR f.Nodes) O<|mvZ (iZ i) O<|tkZ h (λhg h=>ac<|aQ cP cm dZ (λ_=>O) O O hg<|ac<|b_ cm dZ nA O O (v:=aR (at' f.Nodes i)) O<|wZ rg<|aU cS fS (kk:=3) O (λg2=>ac<|ay (aZ 5 O) cm dZ O (w:=aR (at' f.Nodes i)) O O O (v:=aR (at' f.Nodes i)) O aS<|nZ<|qZ<|jgZ (γ:=Nat×Nat) h (λy=>a8 [(1,iZ i),(2,.ptr rg 2 y.2.1 0 0),(5,.ptr rg 5 y.2.2 0 0),(20,.bool y.1)]) (λy=>stL S rg [(2,.arr 3 [ak f],y.2.1),(5,.arr 3 [aR (at' f.Nodes i)],y.2.2)]) (λy h=>?_) (λ_ h=>?_))))
 ·obtain⟨x,⟨g3,g4⟩⟩:=y
  refine cZ h O (λhb h=>?_) (λhb h=>?_)
  ·exact ah<|ac<|cC (by rw[iv];trivial) (v:=iZ 7) O<|asZ (.iface 82<|iZ 7) O<|aF<|gv1 hrg<|hQ _ h
  refine kZ<|qZ<|ah<|ac<|aD eE O<|ac<|ae (aZ 5 O) sz3 ag3 O O (v:=iZ ((at' f.Nodes i).Kind)) O (ac<|aD cD O<|ac<|ae (aZ 5 O) dl fR O O (v:=bd ((at' f.Nodes i).Args)) O (ac<|aI bA O<|ac<|clZ O<|oE h λr h=>ac<|gS O<|nZ<|cZ h O (λhb1 h=>?_) (λhb1 h=>?_)))
  ·exact ah<|ac<|cC (by rw[iv];trivial) (v:=iZ 11) O<|asZ (.iface 82<|iZ 11) O<|aF<|gv1 hrg<|hQ _ h
  refine kZ<|qZ<|ah<|ac<|aD cD O<|ac<|ae (aZ 5 O) dl fR O O (v:=bd ((at' f.Nodes i).Args)) O (ac<|aI bA O<|mvZ (iZ 0) O<|nZ<|bZ<|lgZ h (g3,g4) (λy=>a8 [(1,iZ i),(2,.ptr rg 2 y.2.1 0 0),(5,.ptr rg 5 y.2.2 0 0),(31,bd ((at' f.Nodes i).Args)),(32,iZ (((at' f.Nodes i).Args).length:Int)),(33,iZ y.1)]) (λy=>stL S rg [(2,.arr 3 [ak f],y.2.1),(5,.arr 3 [aR (at' f.Nodes i)],y.2.2)]) (canon (aN<|fZ<|fZ<|fn)<|sc O<|sc O<|sn) (λy _ h=>?_))
  obtain⟨x1,⟨g5,g6⟩⟩:=y
  refine ah<|ac<|bg O O<|nZ<|qZ<|cZ h O (λhb2 h=>?_) (λhb2 h=>?_)
  ·refine kZ<|qZ<|bZ<|ah<|tkZ h (λhg1 h=>ac<|aQ bA sz3 dZ (λ_=>O) O O hg1<|ac<|aG sz3 ag3 O O (v:=iZ (at' ((at' f.Nodes i).Args) x1)) O (asZ (iZ<|at' ((at' f.Nodes i).Args) x1) O<|nZ<|jgZ (γ:=Nat×Nat) h (λy=>a8 [(1,iZ i),(2,.ptr rg 2 y.2.1 0 0),(5,.ptr rg 5 y.2.2 0 0),(31,bd ((at' f.Nodes i).Args)),(32,iZ (((at' f.Nodes i).Args).length:Int)),(33,iZ x1),(46,.bool y.1)]) (λy=>stL S rg [(2,.arr 3 [ak f],y.2.1),(5,.arr 3 [aR (at' f.Nodes i)],y.2.2)]) (λy h=>?_) (λ_ h=>?_)))
   ·obtain⟨x2,⟨g7,g8⟩⟩:=y
    refine cZ h O (λhb3 h=>?_) (λhb3 h=>?_)
    ·exact ah<|ac<|cC (by rw[iv];trivial) (v:=iZ 10) O<|asZ (.iface 82<|iZ 10) O<|aF<|gv1 hrg<|hQ _ h
    exact kZ<|rZ<|tkZ h (λhg2 h=>ac<|aC O O hg2<|mvZ (iZ<|x1+1) O<|nZ<|⟨((x1+1),(g7,g8)),(canon (aN<|fZ<|fZ<|fn)<|sc O<|sc O<|sn),h⟩)
   refine rZ<|mvZ (iZ<|at' ((at' f.Nodes i).Args) x1) O<|ac<|bg O O<|mvZ (.bool<|decide<|(at' ((at' f.Nodes i).Args) x1)<0) O (gfZ h O O (λhb4 h=>?_) (λhb4 h=>?_))
   ·exact mvZ (iZ<|at' ((at' f.Nodes i).Args) x1) O<|gTZ O O hb4<|ac<|aD bT O<|gTZ O O hb4<|ac<|ae (aZ 2 O) sz3 ag3 O O (v:=iZ f.Vars) O<|gTZ O O hb4<|mvZ (iZ i) O<|gTZ O O hb4<|tkZ h (λhg3 h=>ac<|aC O O hg3<|gTZ O O hb4<|ac<|fk O O<|ac<|ba O hb4 (v:=.bool (decide<|(f.Vars+i)<=(at' ((at' f.Nodes i).Args) x1))) O (nZ<|⟨((decide<|(f.Vars+i)<=(at' ((at' f.Nodes i).Args) x1)),(g5,g6)),(canon (aN<|fZ<|fZ<|fZ<|fn)<|sc O<|sc O<|sn),h⟩))
   exact gFZ O O hb4 O<|gFZ O O hb4 O<|gFZ O O hb4 O<|gFZ O O hb4 O<|gFZ O O hb4 O<|ac<|bf O hb4 (v:=.bool true) O<|nZ<|⟨(true,(g5,g6)),(canon (aN<|fZ<|fZ<|fZ<|fn)<|sc O<|sc O<|sn),h⟩
  refine xsZ<|qZ<|ah<|ac<|aD eE O<|ac<|ae (aZ 5 O) sz3 ag3 O O (v:=iZ ((at' f.Nodes i).Kind)) O (nZ<|bZ<|ah<|ac<|bE O O<|asZ (.bool<|(at' f.Nodes i).Kind == 0) O<|nZ<|cZ h O (λhb5 h=>?_) (λhb5 h=>?_))
  ·refine jnZ h (λy=>a8 [(64,.bool y)]) (λy=>stL S rg []) (λx3 h=>?_) (λ_ h=>?_)
   ·refine cZ h O (λhb6 h=>?_) (λhb6 h=>?_)
    ·exact ah<|ac<|cC (by rw[iv];trivial) (v:=iZ 3) O<|asZ (.iface 82<|iZ 3) O<|aF<|gv1 hrg<|hQ _ h
    exact kZ<|ah<|asZ .niface O<|aF<|gv1 hrg<|hQ _ h
   refine rZ<|ac<|aD dh O<|ac<|ae (aZ 5 O) sz3 ag3 O O (v:=iZ ((at' f.Nodes i).K)) O (ac<|de O O<|mvZ (.bool<|(at' f.Nodes i).K != 0) O<|gtZ h O O (λhb7 h=>?_) (λhb7 h=>?_))
   ·exact ac<|aD dh O<|gTZ O O hb7<|ac<|ae (aZ 5 O) sz3 ag3 O O (v:=iZ ((at' f.Nodes i).K)) O (gTZ O O hb7<|ac<|de O O<|ac<|bf O hb7 (v:=.bool ((at' f.Nodes i).K != 1)) O (nZ<|⟨((at' f.Nodes i).K != 1),(canon (fZ<|fn)<|sn),h⟩))
   exact gFZ O O hb7 O<|gFZ O O hb7 O<|ac<|ba O hb7 (v:=.bool false) O<|nZ<|⟨false,(canon (fZ<|fn)<|sn),h⟩
  refine ah<|ac<|bE O O<|asZ (.bool<|(at' f.Nodes i).Kind == 4) O<|nZ<|cZ h O (λhb8 h=>?_) (λhb8 h=>?_)
  ·refine jnZ h (λy=>a8 [(78,.bool y)]) (λy=>stL S rg []) (λx4 h=>?_) (λ_ h=>?_)
   ·refine cZ h O (λhb9 h=>?_) (λhb9 h=>?_)
    ·exact ah<|ac<|cC (by rw[iv];trivial) (v:=iZ 3) O<|asZ (.iface 82<|iZ 3) O<|aF<|gv1 hrg<|hQ _ h
    exact kZ<|ah<|asZ .niface O<|aF<|gv1 hrg<|hQ _ h
   refine rZ<|ac<|aD dh O<|ac<|ae (aZ 5 O) sz3 ag3 O O (v:=iZ ((at' f.Nodes i).K)) O (ac<|bg O O<|mvZ (.bool<|decide<|(at' f.Nodes i).K<1) O<|gfZ h O O (λhb10 h=>?_) (λhb10 h=>?_))
   ·exact ac<|aD dh O<|gTZ O O hb10<|ac<|ae (aZ 5 O) sz3 ag3 O O (v:=iZ ((at' f.Nodes i).K)) O (gTZ O O hb10<|ac<|aD cD O<|gTZ O O hb10<|ac<|ae (aZ 5 O) dl fR O O (v:=bd ((at' f.Nodes i).Args)) O (gTZ O O hb10<|ac<|aI bA O<|gTZ O O hb10<|ac<|dm O O<|ac<|ba O hb10 (v:=.bool (decide<|(((at' f.Nodes i).Args).length:Int)<(at' f.Nodes i).K)) O (nZ<|⟨(decide<|(((at' f.Nodes i).Args).length:Int)<(at' f.Nodes i).K),(canon (fZ<|fn)<|sn),h⟩)))
   exact gFZ O O hb10 O<|gFZ O O hb10 O<|gFZ O O hb10 O<|gFZ O O hb10 O<|gFZ O O hb10 O<|ac<|bf O hb10 (v:=.bool true) O<|nZ<|⟨true,(canon (fZ<|fn)<|sn),h⟩
  refine ah<|ac<|aD dh O<|ac<|ae (aZ 5 O) sz3 ag3 O O (v:=iZ ((at' f.Nodes i).K)) O (ac<|de O O<|nZ<|cZ h O (λhb11 h=>?_) (λhb11 h=>?_))
  ·exact ah<|ac<|cC (by rw[iv];trivial) (v:=iZ 2) O<|asZ (.iface 82<|iZ 2) O<|aF<|gv1 hrg<|hQ _ h
  exact kZ<|ah<|asZ .niface O<|aF<|gv1 hrg<|hQ _ h
 refine rZ<|ac<|aD eE O<|ac<|ae (aZ 5 O) sz3 ag3 O O (v:=iZ ((at' f.Nodes i).Kind)) O (ac<|bg O O<|mvZ (.bool<|decide<|(at' f.Nodes i).Kind<0) O<|gfZ h O O (λhb12 h=>?_) (λhb12 h=>?_))
 ·exact ac<|aD eE O<|gTZ O O hb12<|ac<|ae (aZ 5 O) sz3 ag3 O O (v:=iZ ((at' f.Nodes i).Kind)) O (gTZ O O hb12<|ac<|dm O O<|ac<|ba O hb12 (v:=.bool (decide<|5<(at' f.Nodes i).Kind)) O (nZ<|⟨((decide<|5<(at' f.Nodes i).Kind),(g1,g2)),(canon (aN<|fn)<|sc O<|sc O<|sn),h⟩))
 exact gFZ O O hb12 O<|gFZ O O hb12 O<|ac<|bf O hb12 (v:=.bool true) O<|nZ<|⟨(true,(g1,g2)),(canon (aN<|fn)<|sc O<|sc O<|sn),h⟩
theorem rP {f:GFormula} {arg:Int} {Q:Bool->Prop} (h:kI f arg Q) (hQ:∀r1,Q r1->R (AV.bool r1) S) :
  Ctr Tryz.prog 79 [ak f,iZ arg] S R:=by
 refine aH Tryz.func79 rfl Tryz.ntmps79 Tryz.results79 krZ (λrg hrg=>?_)
 refine ah<|wZ rg<|bx (v:=ak f) O O (kk:=3) O dZ (λg1=>asZ (.bool false) O<|aV<|ac<|aD bT O<|ac<|ae (aZ 2 O) sz3 ag3 O O (v:=iZ f.Vars) O<|ac<|fk O O<|mvZ (.bool<|decide<|0<=f.Vars) O<|gtZ h O O (λhb h=>?_) (λhb h=>?_))
 ·refine mvZ (iZ arg) O<|gTZ O O hb<|ac<|fk O O<|ac<|bf O hb (v:=.bool (decide<|0<=arg)) O (mvZ (.bool<|decide<|0<=arg) O<|gtZ h O O (λhb1 h=>?_) (λhb1 h=>?_))
  ·refine mvZ (iZ arg) O<|gTZ O O hb1<|ac<|aD bT O<|gTZ O O hb1<|ac<|ae (aZ 2 O) sz3 ag3 O O (v:=iZ f.Vars) O<|gTZ O O hb1<|ac<|bg O O<|gTZ O O hb1<|mvZ (.bool<|decide<|arg<f.Vars) O<|gfZ h O O (λhb2 h=>?_) (λhb2 h=>?_)
   ·exact mvZ (iZ arg) O<|gTZ O O hb2<|ac<|aD bT O<|gTZ O O hb2<|ac<|ae (aZ 2 O) sz3 ag3 O O (v:=iZ f.Vars) O<|gTZ O O hb2<|tkZ h (λhg h=>ac<|bQ O O hg<|gTZ O O hb2<|ac<|aD bD O<|gTZ O O hb2<|ac<|ae (aZ 2 O) db dD O O (v:=eL aR f.Nodes) O<|gTZ O O hb2<|ac<|aI cP O<|gTZ O O hb2<|ac<|bg O O<|gTZ O O hb1<|ac<|ba O hb2 (v:=.bool (decide<|(arg-f.Vars)<(f.Nodes.length:Int))) O (ac<|bf O hb1 (v:=.bool (decide<|(arg-f.Vars)<(f.Nodes.length:Int))) O (asZ (.bool<|decide<|(arg-f.Vars)<(f.Nodes.length:Int)) O (aF<|gv1 hrg<|hQ _ h))))
   exact gFZ O O hb2 O<|gFZ O O hb2 O<|gFZ O O hb2 O<|gFZ O O hb2 O<|gFZ O O hb2 O<|gFZ O O hb2 O<|gFZ O O hb2 O<|gTZ O O hb1<|ac<|bf O hb2 (v:=.bool true) O<|ac<|bf O hb1 (v:=.bool true) O<|asZ (.bool true) O<|aF<|gv1 hrg<|hQ _ h
  exact gFZ O O hb1 O<|gFZ O O hb1 O<|gFZ O O hb1 O<|gFZ O O hb1 O<|gUZ O O<|gUZ O O<|gUZ O O<|gUZ O O<|gUZ O O<|gUZ O O<|gUZ O O<|gUZ O O<|gFZ O O hb1 O<|ac<|ba O hb1 (v:=.bool false) O<|asZ (.bool false) O<|aF<|gv1 hrg<|hQ _ h
 exact gFZ O O hb O<|ac<|ba O hb (v:=.bool false) O<|mvZ (.bool false) O<|gFZ O O O O<|gFZ O O O O<|gFZ O O O O<|gFZ O O O O<|gFZ O O O O<|gUZ O O<|gUZ O O<|gUZ O O<|gUZ O O<|gUZ O O<|gUZ O O<|gUZ O O<|gUZ O O<|gFZ O O O O<|ac<|ba O O (v:=.bool false) O<|asZ (.bool false) O<|aF<|gv1 hrg<|hQ _ h
theorem ee {f:GFormula} {Q:Option Int->Prop} (h:du f Q) (hQ:∀r1,Q r1->R (a9 82 r1) S) :
  Ctr Tryz.prog 23 [ak f] S R:=by
 refine aH Tryz.func23 rfl Tryz.ntmps23 Tryz.results23 krZ (λrg hrg=>?_)
 refine ah<|wZ rg<|bx (v:=ak f) O O (kk:=3) O dZ (λg1=>asZ .niface O<|nZ<|qZ<|jgZ (γ:=Nat) h (λy=>a8 [(1,.ptr rg 1 y.2 0 0),(12,.bool y.1)]) (λy=>stL S rg [(1,.arr 3 [ak f],y.2)]) (λy h=>?_) (λ_ h=>?_))
 ·obtain⟨x,g2⟩:=y
  refine cZ h O (λhb h=>?_) (λhb h=>?_)
  ·exact ah<|ac<|cC (by rw[iv];trivial) (v:=iZ 3) O<|asZ (.iface 82<|iZ 3) O<|aF<|gv1 hrg<|hQ _ h
  refine kZ<|qZ<|ah<|ac<|aD bD O<|ac<|ae (aZ 1 O) db dD O O (v:=eL aR f.Nodes) O<|ac<|aI cP O<|ac<|dm O O<|nZ<|cZ h O (λhb1 h=>?_) (λhb1 h=>?_)
  ·exact ah<|ac<|cC (by rw[iv];trivial) (v:=iZ 4) O<|asZ (.iface 82<|iZ 4) O<|aF<|gv1 hrg<|hQ _ h
  refine kZ<|qZ<|ah<|ac<|aD bD O<|ac<|ae (aZ 1 O) db dD O O (v:=eL aR f.Nodes) O<|ac<|aI cP O<|mvZ (iZ 0) O<|nZ<|bZ<|lpZ h (λy=>a8 [(1,.ptr rg 1 g2 0 0),(21,iZ (f.Nodes.length:Int)),(22,iZ y)]) (λy=>stL S rg [(1,.arr 3 [ak f],g2)]) (canon (fZ<|fZ<|fZ<|fn)<|sc O<|sn) (λx1 _ h=>ah<|ac<|bg O O<|nZ<|qZ<|cZ h O (λhb2 h=>?_) (λhb2 h=>?_))
  ·refine kZ<|qZ<|bZ<|ah<|mvZ (iZ x1) O<|asZ (iZ x1) O<|aV<|ac<|aw (aZ 1 O) b9 dZ eH O O (v:=ak f) O<|mvZ (iZ x1) O<|ac<|clZ O<|oD h λe h=>asZ (a9 82 e) O<|aV<|mvZ (a9 82 e) O<|ac<|cU gu (E:=82) O O O<|nZ<|cZ h O (λhb3 h=>?_) (λhb3 h=>?_)
   ·exact ah<|mvZ (a9 82 e) O<|asZ (a9 82 e) O<|aF<|gv1 hrg<|hQ _ h
   exact kZ<|rZ<|tkZ h (λhg h=>ac<|aC O O hg<|mvZ (iZ<|x1+1) O<|nZ<|⟨(x1+1),(canon (fZ<|fZ<|fZ<|fn)<|sc O<|sn),h⟩)
  refine xsZ<|qZ<|ah<|ac<|aw (aZ 1 O) b9 dZ eH O O (v:=ak f) O<|ac<|aD gy O<|ac<|ae (aZ 1 O) sz3 ag3 O O (v:=iZ f.Top) O<|ac<|clZ O<|rP h λr h=>ac<|gS O<|nZ<|cZ h O (λhb4 h=>?_) (λhb4 h=>?_)
  ·exact ah<|ac<|cC (by rw[iv];trivial) (v:=iZ 10) O<|asZ (.iface 82<|iZ 10) O<|aF<|gv1 hrg<|hQ _ h
  exact kZ<|ah<|asZ .niface O<|aF<|gv1 hrg<|hQ _ h
 refine rZ<|ac<|aD bT O<|ac<|ae (aZ 1 O) sz3 ag3 O O (v:=iZ f.Vars) O<|ac<|bg O O<|mvZ (.bool<|decide<|f.Vars<0) O<|gfZ h O O (λhb5 h=>?_) (λhb5 h=>?_)
 ·exact ac<|aD bT O<|gTZ O O hb5<|ac<|ae (aZ 1 O) sz3 ag3 O O (v:=iZ f.Vars) O<|gTZ O O hb5<|ac<|dm O O<|ac<|ba O hb5 (v:=.bool (decide<|24<f.Vars)) O (nZ<|⟨((decide<|24<f.Vars),g1),(canon (fZ<|fZ<|fn)<|sc O<|sn),h⟩)
 exact gFZ O O hb5 O<|gFZ O O hb5 O<|ac<|bf O hb5 (v:=.bool true) O<|nZ<|⟨(true,g1),(canon (fZ<|fZ<|fn)<|sc O<|sn),h⟩
end Go.Proofs.YtnjgdkfhgmebjaaGreat
