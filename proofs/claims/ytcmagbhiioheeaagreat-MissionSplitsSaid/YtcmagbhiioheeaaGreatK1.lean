/- Walks of functions. Conditions: none. -/
import Derived.Test.YtcmagbhiioheeaaGreatWa
import Derived.Test.YtcmagbhiioheeaaGreatGgTy
namespace Go.Proofs.YtcmagbhiioheeaaGreat
open Go.Gg Tryz
set_option maxRecDepth 100000
variable {S:St} {R:AV->St->Prop}
theorem b6 {a:List Int} {Q:List Int->Prop} (h:b_ a Q) (hQ:∀r1,Q r1->R (ak r1) S) :
  Ctr prog 92 [ak a] S R:=by
 refine aG func92 rfl ntmps92 results92 krZ (λrg hrg=>?_)
 refine ah<|asZ .nil O<|aU<|mvZ (ak a) O<|ac<|aK bk O<|asZ (iZ (a.length:Int)) O<|nZ<|jnZ h (λy=>a_ [(0,ak a),(3,iZ y)]) (λy=>stL S rg []) (λn h=>?_) (λ_ h=>?_)
 ·refine qZ<|ah<|mvZ (iZ n) O<|ac<|bJ O O<|nZ<|cZ h O (λhb h=>?_) (λhb h=>?_)
  ·exact ah<|asZ .nil O<|aE<|aB (v:=.nil) O<|aJ<|aO hrg (VW.nilL)<|hQ _ h
  exact kZ<|ah<|wZ rg<|bq bk dQ cM (es:=[]) O (kk:=1) O O O O O O (λg1=>mvZ (ak a) O<|mvZ (iZ n) O<|tkZ h (λhg h=>ac<|jB bk bo dZ (λ_=>O) O (l:=0) (h:=n) O O hg<|tkZ h (λhg1 h=>wZ rg<|cF bk fV dQ cM (es:=([]:List Int)) (xs:=(cg a 0 n)) (enc:=AV.int .u32) (aZ 20 O) lzZ (O) (kk:=1) O O (λ_=>O) (λ_=>O) hg1 O (λ_=>aQ) (λg2=>asZ (.sl 1 rg 20 g2 0<|(([]:List Int)++(cg a 0 n)).length) O (aE<|aB (v:=.sl 1 rg 20 g2 0 ((([]:List Int)++(cg a 0 n)).length)) O (aJ<|br (k:=20) (xs:=List.map (AV.int .u32) (([]:List Int)++(cg a 0 n))) O (v':=ak (([]:List Int)++(cg a 0 n))) (bg O) (goZ hrg<|hQ _ h)))))))
 refine bZ<|lpZ h (λy=>a_ [(0,ak a),(3,iZ y)]) (λy=>stL S rg []) (canon (fZ<|fZ<|fn)<|sn) (λn1 _ h=>qZ<|ah<|mvZ (iZ n1) O<|ac<|cY O O<|mvZ (.bool<|decide<|0<n1) O<|gtZ h O O (λhb1 h=>?_) (λhb1 h=>?_))
 ·refine mvZ (ak a) O<|gTZ O O hb1<|mvZ (iZ n1) O<|gTZ O O hb1<|tkZ h (λhg2 h=>ac<|bL O O hg2<|gTZ O O hb1<|tkZ h (λhg3 h=>ac<|a9 bk bo dZ (λ_=>O) O O hg3<|gTZ O O hb1<|ac<|aP bo dw O O (v:=.int .u32 (at' a<|n1-1)) O (gTZ O O hb1<|ac<|bJ O O<|ac<|aS O hb1 (v:=.bool ((at' a<|n1-1) == 0)) O (nZ<|cZ h O (λhb2 h=>?_) (λhb2 h=>?_)))))
  ·exact kZ<|bZ<|rZ<|mvZ (iZ n1) O<|tkZ h (λhg4 h=>ac<|bL O O hg4<|asZ (iZ<|n1-1) O<|nZ<|⟨(n1-1),(canon (fZ<|fZ<|fn)<|sn),h⟩)
  exact xsZ<|⟨n1,(canon (fZ<|fZ<|fn)<|sn),h⟩
 exact gFZ O O hb1 O<|gFZ O O hb1 O<|gFZ O O hb1 O<|gFZ O O hb1 O<|gFZ O O hb1 O<|ac<|aY O hb1 (v:=.bool false) O<|nZ<|cFZ O O<|xsZ<|⟨n1,(canon (fZ<|fZ<|fn)<|sn),h⟩
theorem gt {a:List Int} {b:List Int} {Q:Int->Prop} (h:dX a b Q) (hQ:∀r1,Q r1->R (iZ r1) S) :
  Ctr prog 52 [ak a,ak b] S R:=by
 refine aG func52 rfl ntmps52 results52 krZ (λrg hrg=>?_)
 refine ah<|asZ (iZ 0) O<|aU<|mvZ (ak a) O<|ac<|clZ O<|b6 h λa1 h=>mvZ (ak b) O<|ac<|clZ O<|b6 h λb1 h=>asZ (ak a1) O<|asZ (ak b1) O<|nZ<|qZ<|ah<|mvZ (ak a1) O<|ac<|aK bk O<|mvZ (ak b1) O<|ac<|aK bk O<|ac<|fA O O<|nZ<|cZ h O (λhb h=>?_) (λhb h=>?_)
 ·refine qZ<|ah<|mvZ (ak a1) O<|ac<|aK bk O<|mvZ (ak b1) O<|ac<|aK bk O<|ac<|bi O O<|nZ<|cZ h O (λhb1 h=>?_) (λhb1 h=>?_)
  ·exact ah<|asZ (iZ<|-1) O<|aE<|gv1 hrg<|hQ _ h
  exact kZ<|ah<|asZ (iZ 1) O<|aE<|gv1 hrg<|hQ _ h
 refine kZ<|qZ<|ah<|mvZ (ak a1) O<|ac<|aK bk O<|tkZ h (λhg h=>ac<|bL O O hg<|asZ (iZ<|(a1.length:Int)-1) O<|nZ<|bZ<|lpZ h (λy=>a_ [(0,ak a1),(1,ak b1),(5,iZ y)]) (λy=>stL S rg []) (canon (fZ<|fZ<|fZ<|fn)<|sn) (λi _ h=>qZ<|ah<|mvZ (iZ i) O<|ac<|fo O O<|nZ<|cZ h O (λhb2 h=>?_) (λhb2 h=>?_)))
 ·refine kZ<|qZ<|bZ<|qZ<|qZ<|tkZ h (λhg1 h=>tkZ h (λhg2 h=>Vc.drawn' bG rg (λ_=>gN) krZ<|dP O O<|aD (v:=ak a1) O<|dP O O<|aD (v:=iZ i) O<|dP O O<|a9 bk bo dZ (λ_=>O) O O hg1<|dP O O<|aP bo dw O O (v:=.int .u32 (at' a1 i)) O<|dP O O<|aD (v:=ak b1) O<|dP O O<|aD (v:=iZ i) O<|dP O O<|a9 bk bo dZ (λ_=>O) O O hg2<|dP O O<|aP bo dw O O (v:=.int .u32 (at' b1 i)) O<|dP O O<|bi O O<|dN<|cZ h O (λhb3 h=>?_) (λhb3 h=>?_)))
  ·exact ah<|asZ (iZ<|-1) O<|aE<|gv1 hrg<|hQ _ h
  refine kZ<|qZ<|tkZ h (λhg3 h=>tkZ h (λhg4 h=>Vc.drawn' bG rg (λ_=>gN) krZ<|dP O O<|aD (v:=ak a1) O<|dP O O<|aD (v:=iZ i) O<|dP O O<|a9 bk bo dZ (λ_=>O) O O hg3<|dP O O<|aP bo dw O O (v:=.int .u32 (at' a1 i)) O<|dP O O<|aD (v:=ak b1) O<|dP O O<|aD (v:=iZ i) O<|dP O O<|a9 bk bo dZ (λ_=>O) O O hg4<|dP O O<|aP bo dw O O (v:=.int .u32 (at' b1 i)) O<|dP O O<|cY O O<|dN<|cZ h O (λhb4 h=>?_) (λhb4 h=>?_)))
  ·exact ah<|asZ (iZ 1) O<|aE<|gv1 hrg<|hQ _ h
  exact kZ<|rZ<|mvZ (iZ i) O<|tkZ h (λhg5 h=>ac<|bL O O hg5<|asZ (iZ<|i-1) O<|nZ<|⟨(i-1),(canon (fZ<|fZ<|fZ<|fn)<|sn),h⟩)
 exact xsZ<|ah<|asZ (iZ 0) O<|aE<|gv1 hrg<|hQ _ h
theorem pi {n:Int} {Q:List Int->Prop} (h:lD n Q) (hQ:∀r1,Q r1->R (ak r1) S) :
  Ctr prog 97 [iZ n] S R:=by
 refine aG func97 rfl ntmps97 results97 krZ (λrg hrg=>?_)
 refine ah<|asZ .nil O<|nZ<|qZ<|ah<|mvZ (iZ n) O<|ac<|rx O O<|nZ<|cZ h O (λhb h=>?_) (λhb h=>?_)
 ·exact ah<|asZ .nil O<|aE<|aB (v:=.nil) O<|aJ<|aO hrg (VW.nilL)<|hQ _ h
 exact kZ<|ah<|mvZ (iZ n) O<|ac<|bP td3 cI O<|mvZ (iZ n) O<|ac<|je O O dZ<|ac<|bP td3 cI O<|wZ rg<|bq bk dQ cM (es:=[.int .u32 (IntKind.wrap .u32 n),.int .u32 (IntKind.wrap .u32<|n / 2^(Int.toNat 32))]) O (kk:=1) O O O O O O (λg1=>eS (bt (k:=10) (xs:=List.map (AV.int .u32) [(IntKind.wrap .u32 n),(IntKind.wrap .u32<|n / 2^(Int.toNat 32))]) O (es:=[(10,ak [(IntKind.wrap .u32 n),(IntKind.wrap .u32<|n / 2^(Int.toNat 32))])]) (fc (bg O)<|fn) (m:=[]) (sn)) (ac<|clZ O<|b6 h λr h=>asZ (ak r) O<|aE<|gv1 hrg<|hQ _ h))
theorem rB {a:List Int} {b:Int} {Q:List Int->Int->Prop} (h:iV a b Q) (hQ:∀r1 r2,Q r1 r2->R (.tuple [ak r1,AV.int .u32 r2]) S) :
  Ctr prog 126 [ak a,AV.int .u32 b] S R:=by
 refine aG func126 rfl ntmps126 results126 krZ (λrg hrg=>?_)
 refine ah<|asZ .nil O<|asZ (.int .u32 0) O<|aU<|mvZ (ak a) O<|ac<|aK bk O<|tkZ h (λhg h=>wZ rg<|fR bk fV dQ (enc:=AV.int .u32) (z':=0) cM (kk:=1) O O O hg (λg1=>asZ (.sl 1 rg 11 g1 0<|Int.toNat (a.length:Int)) O<|aU<|asZ (.int .u64 0) O<|nZ<|qZ<|ah<|mvZ (ak a) O<|ac<|aK bk O<|tkZ h (λhg1 h=>ac<|bL O O hg1<|asZ (iZ<|(a.length:Int)-1) O<|nZ<|bZ<|lpZ h (λy=>a_ [(0,ak a),(1,.int .u32 b),(6,.sl 1 rg 11 g1 0 y.2.2.length),(7,.int .u64 y.1),(8,iZ y.2.1)]) (λy=>stL S rg [(11,.arr 1 (List.map (AV.int .u32) y.2.2),g1)]) (canon (fZ<|fZ<|fc (VW.slen lzZ)<|fZ<|fZ<|fn)<|sc O<|sn) (λy _ h=>?_))))
 obtain⟨rest,i,out⟩:=y
 refine qZ<|ah<|mvZ (iZ i) O<|ac<|fo O O<|nZ<|cZ h O (λhb h=>?_) (λhb h=>?_)
 ·exact kZ<|qZ<|bZ<|ah<|mvZ (.int .u64 rest) O<|ac<|pe O O dZ<|mvZ (ak a) O<|mvZ (iZ i) O<|tkZ h (λhg2 h=>ac<|a9 bk bo dZ (λ_=>O) O O hg2<|ac<|aP bo dw O O (v:=.int .u32 (at' a i)) O<|ac<|bP cI cP O<|ac<|w5 O O<|stZ h (λrest1 hs h=>wZ rg<|a8 (v:=.int .u64 rest1) (by subst hs;rfl)<|aU<|mvZ (.sl 1 rg 11 g1 0 out.length) O<|mvZ (iZ i) O<|mvZ (.int .u64 rest1) O<|mvZ (.int .u32 b) O<|ac<|bP cI cP O<|tkZ h (λhg3 h=>ac<|BL O O hg3<|ac<|bP cP cI O<|tkZ h (λhi h=>ac<|bh bk bo dZ O O hi<|ac<|bM (aZ 11 O) bo dZ (x':=(IntKind.wrap .u32<|IntKind.wrap .u64<|Int.tdiv rest1<|IntKind.wrap .u64 b)) (λ_=>O) O O (bE hi lzZ) O O aQ<|nZ<|rZ<|mvZ (.int .u64 rest1) O<|mvZ (.int .u32 b) O<|ac<|bP cI cP O<|tkZ h (λhg4 h=>ac<|BK O O hg4<|asZ (.int .u64<|Int.tmod rest1<|IntKind.wrap .u64 b) O<|nZ<|rZ<|mvZ (iZ i) O<|tkZ h (λhg5 h=>ac<|bL O O hg5<|asZ (iZ<|i-1) O<|nZ<|⟨((Int.tmod rest1<|IntKind.wrap .u64 b),(i-1),(bu out i<|IntKind.wrap .u32<|IntKind.wrap .u64<|Int.tdiv rest1<|IntKind.wrap .u64 b)),(canon (fZ<|fZ<|fc (VW.slen lzZ)<|fZ<|fZ<|fn)<|sc O<|sn),h⟩))))))
 exact xsZ<|ah<|mvZ (.sl 1 rg 11 g1 0 out.length) O<|eS (bt (k:=11) (xs:=List.map (AV.int .u32) out) O (es:=[(7,.int .u64 rest),(39,ak out)]) (fZ<|fc (bg O)<|fn) (m:=[]) (sn)) (ac<|clZ O<|b6 h λr h=>mvZ (.int .u64 rest) O<|ac<|bP cP cI O<|asZ (ak r) O<|asZ (.int .u32<|IntKind.wrap .u32 rest) O<|aE<|aB (v:=ak r) O<|aB (v:=.int .u32 (IntKind.wrap .u32 rest)) O<|aJ<|aO hrg (VW.tupL<|vZ<|vZ<|vn)<|hQ _ _ h)
theorem lm {x:Int} {Q:Int->Prop} (h:gJ x Q) (hQ:∀r1,Q r1->R (iZ r1) S) :
  Ctr prog 125 [AV.int .u32 x] S R:=by
 refine aG func125 rfl ntmps125 results125 krZ (λrg hrg=>?_)
 refine ah<|asZ (iZ 0) O<|nZ<|jnZ h (λy=>a_ [(0,.int .u32 y.1),(2,iZ y.2)]) (λy=>stL S rg []) (λy h=>?_) (λ_ h=>?_)
 ·obtain⟨x1,n⟩:=y
  refine jnZ h (λy=>a_ [(0,.int .u32 y.1),(2,iZ y.2)]) (λy=>stL S rg []) (λy h=>?_) (λ_ h=>?_)
  ·obtain⟨x2,n1⟩:=y
   exact ah<|mvZ (iZ n1) O<|mvZ (.int .u32 x2) O<|ac<|bP cI td5 O<|tkZ h (λhg h=>wZ rg<|D6 td9 krZ O hg<|ac<|bP td5 td3 O<|tkZ h (λhg1 h=>ac<|aC O O hg1<|stZ h (λn2 hs h=>wZ rg<|a8 (v:=iZ n2) (by subst hs;rfl)<|aE<|gv1 hrg<|hQ _ h)))
  refine ah<|mvZ (.int .u32 x1) O<|ac<|fo O O<|nZ<|cZ h O (λhb h=>?_) (λhb h=>?_)
  ·exact ah<|mvZ (.int .u32 x1) O<|ac<|je O O dZ<|asZ (.int .u32<|x1 / 2^(Int.toNat 8)) O<|nZ<|rZ<|mvZ (iZ n) O<|tkZ h (λhg2 h=>ac<|aC O O hg2<|asZ (iZ<|n+8) O<|nZ<|⟨((x1 / 2^(Int.toNat 8)),(n+8)),(canon (fZ<|fZ<|fn)<|sn),h⟩)
  exact kZ<|⟨(x1,n),(canon (fZ<|fZ<|fn)<|sn),h⟩
 refine ah<|mvZ (.int .u32 x) O<|ac<|fo O O<|nZ<|cZ h O (λhb1 h=>?_) (λhb1 h=>?_)
 ·exact ah<|mvZ (.int .u32 x) O<|ac<|je O O dZ<|asZ (.int .u32<|x / 2^(Int.toNat 16)) O<|nZ<|rZ<|asZ (iZ 16) O<|nZ<|⟨((x / 2^(Int.toNat 16)),16),(canon (fZ<|fZ<|fn)<|sn),h⟩
 exact kZ<|⟨(x,0),(canon (fZ<|fZ<|fn)<|sn),h⟩
theorem kX {x:Int} {Q:Int->Prop} (h:e_ x Q) (hQ:∀r1,Q r1->R (iZ r1) S) :
  Ctr prog 127 [AV.int .u32 x] S R:=by
 refine aG func127 rfl ntmps127 results127 krZ (λrg hrg=>?_)
 exact ah<|asZ (iZ 0) O<|aU<|mvZ (.int .u32 x) O<|ac<|clZ O<|lm h λr h=>tkZ h (λhg h=>ac<|bL O O hg<|asZ (iZ<|32-r) O<|aE<|gv1 hrg<|hQ _ h)
theorem sP {a:List Int} {n:Int} {Q:List Int->Prop} (h:e8 a n Q) (hQ:∀r1,Q r1->R (ak r1) S) :
  Ctr prog 128 [ak a,iZ n] S R:=by
 refine aG func128 rfl ntmps128 results128 krZ (λrg hrg=>?_)
 refine ah<|asZ .nil O<|aU<|mvZ (ak a) O<|ac<|aK bk O<|tkZ h (λhg h=>ac<|aC O O hg<|tkZ h (λhg1 h=>wZ rg<|fR bk fV dQ (enc:=AV.int .u32) (z':=0) cM (kk:=1) O O O hg1 (λg1=>asZ (.sl 1 rg 12 g1 0<|Int.toNat<|(a.length:Int)+1) O<|nZ<|qZ<|ah<|mvZ (ak a) O<|ac<|aK bk O<|mvZ (iZ 0) O<|nZ<|bZ<|lpZ h (λy=>a_ [(1,iZ n),(5,.sl 1 rg 12 g1 0 y.2.length),(13,ak a),(14,iZ (a.length:Int)),(15,iZ y.1)]) (λy=>stL S rg [(12,.arr 1 (List.map (AV.int .u32) y.2),g1)]) (canon (fZ<|fc (VW.slen lzZ)<|fZ<|fZ<|fZ<|fn)<|sc O<|sn) (λy _ h=>?_))))
 obtain⟨x,out⟩:=y
 refine ah<|ac<|bi O O<|nZ<|qZ<|cZ h O (λhb h=>?_) (λhb h=>?_)
 ·refine kZ<|qZ<|bZ<|ah<|mvZ (iZ x) O<|tkZ h (λhg2 h=>ac<|a9 bk bo dZ (λ_=>O) O O hg2<|ac<|aP bo dw O O (v:=.int .u32 (at' a x)) O<|asZ (iZ x) O<|asZ (.int .u32<|at' a x) O<|aU<|mvZ (.int .u32<|at' a x) O<|ac<|bP cI cP O<|mvZ (iZ n) O<|tkZ h (λhg3 h=>ac<|pe O O hg3<|stZ h (λy1 hs h=>wZ rg<|a8 (v:=.int .u64 y1) (by subst hs;rfl)<|aU<|mvZ (.sl 1 rg 12 g1 0 out.length) O<|mvZ (iZ x) O<|tkZ h (λhi h=>ac<|bh bk bo dZ O O hi<|ac<|bY (aZ 12 O) bo dw O (bE hi lzZ) O (v:=.int .u32 (at' out x)) O<|mvZ (.int .u64 y1) O<|ac<|bP cP cI O<|ac<|w5 O O<|tkZ h (λhi1 h=>ac<|bh bk bo dZ O O hi1<|ac<|bM (aZ 12 O) bo dZ (x':=(bits .or .u32 (at' out x)<|IntKind.wrap .u32 y1)) (λ_=>O) O O (bE hi1 lzZ) O O aQ<|nZ<|rZ<|mvZ (.sl 1 rg 12 g1 0 out.length) O<|mvZ (iZ x) O<|tkZ h (λhg4 h=>ac<|aC O O hg4<|mvZ (.int .u64 y1) O<|ac<|je O O dZ<|ac<|bP cP cI O<|tkZ h (λhi2 h=>ac<|bh bk bo dZ O O hi2<|ac<|bM (aZ 12 O) bo dZ (x':=(IntKind.wrap .u32<|y1 / 2^(Int.toNat 32))) (λ_=>O) O O (bE hi2 lzZ) O O aQ<|nZ<|rZ<|tkZ h (λhg5 h=>ac<|aC O O hg5<|mvZ (iZ<|x+1) O<|nZ ?_))))))))
  exact⟨((x+1),(bu (bu out x<|bits .or .u32 (at' out x)<|IntKind.wrap .u32 y1) (x+1)<|IntKind.wrap .u32<|y1 / 2^(Int.toNat 32))),(canon (fZ<|fc (VW.slen lzZ)<|fZ<|fZ<|fZ<|fn)<|sc O<|sn),h⟩
 exact xsZ<|ah<|mvZ (.sl 1 rg 12 g1 0 out.length) O<|asZ (.sl 1 rg 12 g1 0 out.length) O<|aE<|aB (v:=.sl 1 rg 12 g1 0 out.length) O<|aJ<|br (k:=12) (xs:=List.map (AV.int .u32) out) O (v':=ak out) (bg O)<|goZ hrg<|hQ _ h
theorem rD {a:List Int} {n:Int} (q k:Nat) {Q:List Int->Prop} {S:St} {R:AV->St->Prop} (h:e8 a n Q) (hQ:∀r1 g,Q r1->R (.sl 1 q k g 0 r1.length) (S.set q k (.arr 1 (List.map (AV.int .u32) r1)) g)) :
  Ctr prog 128 [ak a,iZ n] S R:=by
 unfold e8 at h
 refine aG func128 rfl ntmps128 results128 krZ (λrg hrg=>?_)
 refine ah<|asZ .nil O<|aU<|mvZ (ak a) O<|ac<|aK bk O<|tkZ h (λhg h=>ac<|aC O O hg<|tkZ h (λhg1 h=>wZ rg<|fR bk fV dQ (enc:=AV.int .u32) (z':=0) cM (kk:=1) O O O hg1 (λg1=>asZ (.sl 1 rg 12 g1 0<|Int.toNat<|(a.length:Int)+1) O<|nZ<|qZ<|ah<|mvZ (ak a) O<|ac<|aK bk O<|mvZ (iZ 0) O<|nZ<|bZ<|lpZ h (λy=>a_ [(1,iZ n),(5,.sl 1 rg 12 g1 0 y.2.length),(13,ak a),(14,iZ (a.length:Int)),(15,iZ y.1)]) (λy=>stL S rg [(12,.arr 1 (List.map (AV.int .u32) y.2),g1)]) (canon (fZ<|fc (VW.slen lzZ)<|fZ<|fZ<|fZ<|fn)<|sc O<|sn) (λy _ h=>?_))))
 obtain⟨x,out⟩:=y
 refine ah<|ac<|bi O O<|nZ<|qZ<|cZ h O (λhb h=>?_) (λhb h=>?_)
 ·refine kZ<|qZ<|bZ<|ah<|mvZ (iZ x) O<|tkZ h (λhg2 h=>ac<|a9 bk bo dZ (λ_=>O) O O hg2<|ac<|aP bo dw O O (v:=.int .u32 (at' a x)) O<|asZ (iZ x) O<|asZ (.int .u32<|at' a x) O<|aU<|mvZ (.int .u32<|at' a x) O<|ac<|bP cI cP O<|mvZ (iZ n) O<|tkZ h (λhg3 h=>ac<|pe O O hg3<|stZ h (λy1 hs h=>wZ rg<|a8 (v:=.int .u64 y1) (by subst hs;rfl)<|aU<|mvZ (.sl 1 rg 12 g1 0 out.length) O<|mvZ (iZ x) O<|tkZ h (λhi h=>ac<|bh bk bo dZ O O hi<|ac<|bY (aZ 12 O) bo dw O (bE hi lzZ) O (v:=.int .u32 (at' out x)) O<|mvZ (.int .u64 y1) O<|ac<|bP cP cI O<|ac<|w5 O O<|tkZ h (λhi1 h=>ac<|bh bk bo dZ O O hi1<|ac<|bM (aZ 12 O) bo dZ (x':=(bits .or .u32 (at' out x)<|IntKind.wrap .u32 y1)) (λ_=>O) O O (bE hi1 lzZ) O O aQ<|nZ<|rZ<|mvZ (.sl 1 rg 12 g1 0 out.length) O<|mvZ (iZ x) O<|tkZ h (λhg4 h=>ac<|aC O O hg4<|mvZ (.int .u64 y1) O<|ac<|je O O dZ<|ac<|bP cP cI O<|tkZ h (λhi2 h=>ac<|bh bk bo dZ O O hi2<|ac<|bM (aZ 12 O) bo dZ (x':=(IntKind.wrap .u32<|y1 / 2^(Int.toNat 32))) (λ_=>O) O O (bE hi2 lzZ) O O aQ<|nZ<|rZ<|tkZ h (λhg5 h=>ac<|aC O O hg5<|mvZ (iZ<|x+1) O<|nZ ?_))))))))
  exact⟨((x+1),(bu (bu out x<|bits .or .u32 (at' out x)<|IntKind.wrap .u32 y1) (x+1)<|IntKind.wrap .u32<|y1 / 2^(Int.toNat 32))),(canon (fZ<|fc (VW.slen lzZ)<|fZ<|fZ<|fZ<|fn)<|sc O<|sn),h⟩
 refine xsZ<|ah<|mvZ (.sl 1 rg 12 g1 0 out.length) O<|asZ (.sl 1 rg 12 g1 0 out.length) O<|aE<|aB (v:=.sl 1 rg 12 g1 0 out.length) O<|aJ ?_
 show fi _ (.sl 1 rg 12 g1 0 out.length) _
 exact xB q k hrg O (λg'=>hQ _ g' h)
theorem dd {a:List Int} {i:Int} {Q:Int->Prop} (h:c6 a i Q) (hQ:∀r1,Q r1->R (AV.int .u64 r1) S) :
  Ctr prog 121 [ak a,iZ i] S R:=by
 refine aG func121 rfl ntmps121 results121 krZ (λrg hrg=>?_)
 refine ah<|asZ (.int .u64 0) O<|nZ<|qZ<|ah<|mvZ (iZ i) O<|mvZ (ak a) O<|ac<|aK bk O<|ac<|bi O O<|nZ<|cZ h O (λhb h=>?_) (λhb h=>?_)
 ·exact ah<|mvZ (ak a) O<|mvZ (iZ i) O<|tkZ h (λhg h=>ac<|a9 bk bo dZ (λ_=>O) O O hg<|ac<|aP bo dw O O (v:=.int .u32 (at' a i)) O<|ac<|bP cI cP O<|asZ (.int .u64<|IntKind.wrap .u64<|at' a i) O<|aE<|gv1 hrg<|hQ _ h)
 exact kZ<|ah<|asZ (.int .u64 0) O<|aE<|gv1 hrg<|hQ _ h
theorem sO {u:List Int} {uo:Nat} {ul:Nat} {v:List Int} {n:Int} {q0 k0 g0:Nat} {Q:List Int->Bool->Prop} (h:ma u uo ul v n Q) (hQ:∀r1 r2,Q r1 r2->R (AV.bool r2) (stX S [(q0,k0,.arr 1 (List.map (AV.int .u32) r1),g0)])) :
  Ctr prog 129 [.sl 1 q0 k0 g0 uo ul,ak v,AV.int .u64 n] (stX S [(q0,k0,.arr 1 (List.map (AV.int .u32) u),g0)]) R:=by
 refine aG func129 rfl ntmps129 results129 krZ (λrg hrg=>?_)
 have hdx:DX [(q0,k0,.arr 1 (List.map (AV.int .u32) u),g0)]:=dx1
 have hfr:=λX' e=>b7 (S:=S) (rg:=rg) (X:=[(q0,k0,.arr 1 (List.map (AV.int .u32) u),g0)]) (X':=X') e hrg
 have hne0:=aA hdx hrg 0 rfl
 refine ah<|asZ (.bool false) O<|aU<|asZ (.int .u64 0) O<|asZ (.int .u64 0) O<|nZ<|qZ<|ah<|mvZ (.sl 1 q0 k0 g0 uo ul) O<|ac<|fG bk O<|mvZ (iZ 0) O<|nZ<|bZ<|lpZ h (λy=>a_ [(0,.sl 1 q0 k0 g0 uo ul),(1,ak v),(2,.int .u64 n),(7,.int .u64 y.1),(8,.int .u64 y.2.1),(12,iZ (ul:Int)),(13,iZ y.2.2.1)]) (λy=>stL (stX S [(q0,k0,.arr 1 (List.map (AV.int .u32) y.2.2.2),g0)]) rg []) (canon (aN<|fZ<|fZ<|fZ<|fn)<|sn) (λy _ h=>?_)
 obtain⟨carry,borrow,x,u1⟩:=y
 refine ah<|ac<|bi O O<|nZ<|qZ<|cZ h O (λhb h=>?_) (λhb h=>?_)
 ·refine kZ<|qZ<|bZ<|ah<|mvZ (iZ x) O<|asZ (iZ x) O<|aU<|mvZ (.int .u64 carry) O<|mvZ (.int .u64 n) O<|mvZ (ak v) O<|mvZ (iZ x) O<|ac<|clZ O<|dd h λr h=>ac<|zF O O<|ac<|nG O O<|stZ h (λcarry1 hs h=>wZ rg<|a8 (v:=.int .u64 carry1) (by subst hs;rfl)<|aU<|mvZ (.sl 1 q0 k0 g0 uo ul) O<|mvZ (iZ x) O<|tkZ h (λhi h=>ac<|ux bk bo dZ O O hi<|tkZ h (λhg h=>ac<|bY (atX hne0 hdx 0 O) bo dw O (hg) O (v:=.int .u32 (at' u1<|(uo:Int)+x)) O (ac<|bP cI cP O<|mvZ (.int .u64 carry1) O<|ac<|bP cP cI O<|ac<|bP cI cP O<|ac<|qj O O<|mvZ (.int .u64 borrow) O<|ac<|qj O O<|stZ h (λd hs1 h=>wZ rg<|a8 (v:=.int .u64 d) (by subst hs1;rfl)<|aU<|mvZ (.sl 1 q0 k0 g0 uo ul) O<|mvZ (iZ x) O<|mvZ (.int .u64 d) O<|ac<|bP cP cI O<|tkZ h (λhi1 h=>ac<|ux bk bo dZ O O hi1<|tkZ h (λhg1 h=>ac<|bM (atX hne0 hdx 0 O) bo dZ (x':=(IntKind.wrap .u32 d)) (λ_=>O) O O (hg1) O O (bX hne0 hdx 0 O O)<|aU<|mvZ (.int .u64 d) O<|ac<|je O O dZ<|asZ (.int .u64<|d / 2^(Int.toNat 63)) O<|nZ<|rZ<|mvZ (.int .u64 carry1) O<|ac<|je O O dZ<|asZ (.int .u64<|carry1 / 2^(Int.toNat 32)) O<|nZ<|rZ<|tkZ h (λhg2 h=>ac<|aC O O hg2<|mvZ (iZ<|x+1) O<|nZ ?_))))))))
  exact⟨((carry1 / 2^(Int.toNat 32)),(d / 2^(Int.toNat 63)),(x+1),(bu u1 ((uo:Int)+x)<|IntKind.wrap .u32 d)),(canon (aN<|fZ<|fZ<|fZ<|fn)<|sn),h⟩
 exact xsZ<|ah<|mvZ (.int .u64 borrow) O<|ac<|bJ O O<|asZ (.bool<|borrow == 1) O<|aE<|gv1 (hfr _ O)<|hQ _ _ h
theorem sQ {u:List Int} {uo:Nat} {ul:Nat} {v:List Int} {q0 k0 g0:Nat} {Q:List Int->Prop} (h:mb u uo ul v Q) (hQ:∀r1,Q r1->R (.tuple []) (stX S [(q0,k0,.arr 1 (List.map (AV.int .u32) r1),g0)])) :
  Ctr prog 130 [.sl 1 q0 k0 g0 uo ul,ak v] (stX S [(q0,k0,.arr 1 (List.map (AV.int .u32) u),g0)]) R:=by
 refine aG func130 rfl ntmps130 results130 krZ (λrg hrg=>?_)
 have hdx:DX [(q0,k0,.arr 1 (List.map (AV.int .u32) u),g0)]:=dx1
 have hfr:=λX' e=>b7 (S:=S) (rg:=rg) (X:=[(q0,k0,.arr 1 (List.map (AV.int .u32) u),g0)]) (X':=X') e hrg
 have hne0:=aA hdx hrg 0 rfl
 refine ah<|asZ (.int .u64 0) O<|aU<|mvZ (.sl 1 q0 k0 g0 uo ul) O<|ac<|fG bk O<|mvZ (iZ 0) O<|nZ<|bZ<|lpZ h (λy=>a_ [(0,.sl 1 q0 k0 g0 uo ul),(1,ak v),(4,.int .u64 y.1),(7,iZ (ul:Int)),(8,iZ y.2.1)]) (λy=>stL (stX S [(q0,k0,.arr 1 (List.map (AV.int .u32) y.2.2),g0)]) rg []) (canon (aN<|fZ<|fn)<|sn) (λy _ h=>?_)
 obtain⟨carry,x,u1⟩:=y
 refine ah<|ac<|bi O O<|nZ<|qZ<|cZ h O (λhb h=>?_) (λhb h=>?_)
 ·refine kZ<|qZ<|bZ<|ah<|mvZ (iZ x) O<|asZ (iZ x) O<|nZ<|qZ<|tkZ h (λhi h=>tkZ h (λhg h=>?_))
  obtain⟨r,hc,h⟩:=h
  refine Vc.drawn' bG rg (gk [(8,pc (.int .u64 r))]) krZ<|dP O O<|aD (v:=.int .u64 carry) O<|dP O O<|aD (v:=.sl 1 q0 k0 g0 uo ul) O<|dP O O<|aD (v:=iZ x) O<|dP O O<|ux bk bo dZ O O hi<|dL (E:=([(q0,k0)],[])) O O zSm (cfn) (bY (atX hne0 hdx 0 O) bo dw O (hg) O (v:=.int .u32 (at' u1<|(uo:Int)+x)) O (dP O O<|bP cI cP O<|dP O O<|aD (v:=ak v) O<|dP O O<|aD (v:=iZ x) O<|dC (vs:=[ak v,iZ x]) O (vZ<|vZ<|vn) (λ_=>dd hc (λ_ hr=>⟨by rw[hr],rfl⟩)) O<|dP O O<|nG O O<|dP O O<|nG O O<|dP O O<|a8 (v:=.int .u64 (IntKind.wrap .u64<|carry+(IntKind.wrap .u64<|(IntKind.wrap .u64<|at' u1<|(uo:Int)+x)+r))) O (dN<|ah<|mvZ (.sl 1 q0 k0 g0 uo ul) O<|mvZ (iZ x) O<|mvZ (.int .u64<|IntKind.wrap .u64<|carry+(IntKind.wrap .u64<|(IntKind.wrap .u64<|at' u1<|(uo:Int)+x)+r)) O (ac<|bP cP cI O<|tkZ h (λhi1 h=>ac<|ux bk bo dZ O O hi1<|tkZ h (λhg1 h=>ac<|bM (atX hne0 hdx 0 O) bo dZ (x':=(IntKind.wrap .u32<|IntKind.wrap .u64<|carry+(IntKind.wrap .u64<|(IntKind.wrap .u64<|at' u1<|(uo:Int)+x)+r))) (λ_=>O) O O (hg1) O O (bX hne0 hdx 0 O O)<|nZ<|rZ<|mvZ (.int .u64<|IntKind.wrap .u64<|carry+(IntKind.wrap .u64<|(IntKind.wrap .u64<|at' u1<|(uo:Int)+x)+r)) O (ac<|je O O dZ<|stZ h (λcarry1 hs h=>?_))))))))
  exact wZ rg<|a8 (v:=.int .u64 carry1) (by subst hs;rfl)<|nZ<|rZ<|tkZ h (λhg2 h=>ac<|aC O O hg2<|mvZ (iZ<|x+1) O<|nZ<|⟨(carry1,(x+1),(bu u1 ((uo:Int)+x)<|IntKind.wrap .u32<|IntKind.wrap .u64<|carry+(IntKind.wrap .u64<|(IntKind.wrap .u64<|at' u1<|(uo:Int)+x)+r))),(canon (aN<|fZ<|fn)<|sn),h⟩)
 exact xsZ<|gv0 (hfr _ O)<|hQ _ h
theorem rC {a:List Int} {n:Int} {Q:List Int->Prop} (h:iW a n Q) (hQ:∀r1,Q r1->R (ak r1) S) :
  Ctr prog 131 [ak a,iZ n] S R:=by
 refine aG func131 rfl ntmps131 results131 krZ (λrg hrg=>?_)
 refine ah<|asZ .nil O<|aU<|mvZ (ak a) O<|ac<|aK bk O<|tkZ h (λhg h=>wZ rg<|fR bk fV dQ (enc:=AV.int .u32) (z':=0) cM (kk:=1) O O O hg (λg1=>asZ (.sl 1 rg 9 g1 0<|Int.toNat (a.length:Int)) O<|nZ<|qZ<|ah<|mvZ (ak a) O<|ac<|aK bk O<|mvZ (iZ 0) O<|nZ<|bZ<|lpZ h (λy=>a_ [(0,ak a),(1,iZ n),(5,.sl 1 rg 9 g1 0 y.2.length),(11,iZ (a.length:Int)),(12,iZ y.1)]) (λy=>stL S rg [(9,.arr 1 (List.map (AV.int .u32) y.2),g1)]) (canon (fZ<|fZ<|fc (VW.slen lzZ)<|fZ<|fZ<|fn)<|sc O<|sn) (λy _ h=>?_)))
 obtain⟨x,out⟩:=y
 refine ah<|ac<|bi O O<|nZ<|qZ<|cZ h O (λhb h=>?_) (λhb h=>?_)
 ·exact kZ<|qZ<|bZ<|ah<|mvZ (iZ x) O<|asZ (iZ x) O<|nZ<|rZ<|mvZ (.sl 1 rg 9 g1 0 out.length) O<|mvZ (iZ x) O<|mvZ (ak a) O<|mvZ (iZ x) O<|ac<|clZ O<|dd h λr h=>mvZ (ak a) O<|mvZ (iZ x) O<|tkZ h (λhg1 h=>ac<|aC O O hg1<|ac<|clZ O<|dd h λr1 h=>ac<|pe O O dZ<|ac<|w5 O O<|mvZ (iZ n) O<|tkZ h (λhg2 h=>ac<|je O O hg2<|ac<|bP cP cI O<|tkZ h (λhi h=>ac<|bh bk bo dZ O O hi<|ac<|bM (aZ 9 O) bo dZ (x':=(IntKind.wrap .u32<|(bits .or .u64 r<|IntKind.wrap .u64<|r1*2^(Int.toNat 32)) / 2^(Int.toNat n))) (λ_=>O) O O (bE hi lzZ) O O aQ<|nZ<|rZ<|tkZ h (λhg3 h=>ac<|aC O O hg3<|mvZ (iZ<|x+1) O<|nZ<|⟨((x+1),(bu out x<|IntKind.wrap .u32<|(bits .or .u64 r<|IntKind.wrap .u64<|r1*2^(Int.toNat 32)) / 2^(Int.toNat n))),(canon (fZ<|fZ<|fc (VW.slen lzZ)<|fZ<|fZ<|fn)<|sc O<|sn),h⟩))))
 exact xsZ<|ah<|mvZ (.sl 1 rg 9 g1 0 out.length) O<|asZ (.sl 1 rg 9 g1 0 out.length) O<|aE<|aB (v:=.sl 1 rg 9 g1 0 out.length) O<|aJ<|br (k:=9) (xs:=List.map (AV.int .u32) out) O (v':=ak out) (bg O)<|goZ hrg<|hQ _ h
theorem kU {a:List Int} {b:List Int} {Q:List Int->List Int->Option Int->Prop} (h:iO a b Q) (hQ:∀r1 r2 r3,Q r1 r2 r3->R (.tuple [ak r1,ak r2,aW 41 r3]) S) :
  Ctr prog 96 [ak a,ak b] S R:=by
 refine aG func96 rfl ntmps96 results96 krZ (λrg hrg=>?_)
 refine ah<|asZ .nil O<|asZ .nil O<|asZ .niface O<|aU<|mvZ (ak a) O<|ac<|clZ O<|b6 h λa1 h=>mvZ (ak b) O<|ac<|clZ O<|b6 h λb1 h=>asZ (ak a1) O<|asZ (ak b1) O<|nZ<|qZ<|ah<|mvZ (ak b1) O<|ac<|aK bk O<|ac<|bJ O O<|nZ<|cZ h O (λhb h=>?_) (λhb h=>?_)
 ·exact ah<|ac<|cp (by rw[gQ];trivial) (v:=iZ 8) O<|asZ .nil O<|asZ .nil O<|asZ (.iface 41<|iZ 8) O<|aE<|aB (v:=.nil) O<|aB (v:=.nil) O<|aB (v:=.iface 41 (iZ 8)) O<|aJ<|aO hrg (VW.tupL<|vl' (VW.nilL)<|vl' (VW.nilL)<|vZ<|vn)<|hQ _ _ _ h
 refine kZ<|qZ<|ah<|mvZ (ak a1) O<|mvZ (ak b1) O<|ac<|clZ O<|gt h λr h=>ac<|bi O O<|nZ<|cZ h O (λhb1 h=>?_) (λhb1 h=>?_)
 ·exact ah<|mvZ (ak a1) O<|asZ .nil O<|asZ (ak a1) O<|asZ .niface O<|aE<|aB (v:=.nil) O<|aB (v:=ak a1) O<|aB (v:=.niface) O<|aJ<|aO hrg (VW.tupL<|vl' (VW.nilL)<|vZ<|vZ<|vn)<|hQ _ _ _ h
 refine kZ<|qZ<|ah<|mvZ (ak b1) O<|ac<|aK bk O<|ac<|bJ O O<|nZ<|cZ h O (λhb2 h=>?_) (λhb2 h=>?_)
 ·exact ah<|mvZ (ak a1) O<|mvZ (ak b1) O<|tkZ h (λhg h=>ac<|a9 bk bo dZ (λ_=>O) O O hg<|ac<|aP bo dw O O (v:=.int .u32 (at' b1 0)) O<|ac<|clZ O<|rB h λr1 r2 h=>mvZ (.tuple [ak r1,.int .u32 r2]) O<|ac<|au (v:=ak r1) O O O<|ac<|au (v:=.int .u32 r2) O O O<|asZ (ak r1) O<|asZ (.int .u32 r2) O<|aU<|mvZ (ak r1) O<|mvZ (.int .u32 r2) O<|ac<|bP cI td3 O<|ac<|clZ O<|pi h λr3 h=>asZ (ak r1) O<|asZ (ak r3) O<|asZ .niface O<|aE<|aB (v:=ak r1) O<|aB (v:=ak r3) O<|aB (v:=.niface) O<|aJ<|aO hrg (VW.tupL<|vZ<|vZ<|vZ<|vn)<|hQ _ _ _ h)
 refine kZ<|ah<|mvZ (ak b1) O<|mvZ (ak b1) O<|ac<|aK bk O<|tkZ h (λhg1 h=>ac<|bL O O hg1<|tkZ h (λhg2 h=>ac<|a9 bk bo dZ (λ_=>O) O O hg2<|ac<|aP bo dw O O (v:=.int .u32 (at' b1<|(b1.length:Int)-1)) O (ac<|clZ O<|kX h λn h=>asZ (iZ n) O<|aU<|mvZ (ak b1) O<|mvZ (iZ n) O<|ac<|clZ O<|sP h λr4 h=>mvZ (ak b1) O<|ac<|aK bk O<|tkZ h (λhg3 h=>ac<|jB bk bo dZ (λ_=>O) O (l:=0) (h:=(b1.length:Int)) O O hg3<|stZ h (λv hs h=>wZ rg<|a8 (v:=ak v) (by subst hs;rfl)<|aU<|mvZ (ak a1) O<|mvZ (iZ n) O<|ac<|clZ O<|rD rg 61 h λu g1 h=>co aQ<|asZ (.sl 1 rg 61 g1 0 u.length) O<|nZ<|qZ<|tkZ h (λhg4 h=>tkZ h (λhg5 h=>tkZ h (λhg6 h=>tkZ h (λhg7 h=>Vc.drawn' bG rg (λ_=>gN) krZ<|dP O O<|aD (v:=ak v) O<|dP O O<|aD (v:=ak v) O<|dP O O<|aK bk O<|dP O O<|bL O O hg4<|dP O O<|a9 bk bo dZ (λ_=>O) O O hg5<|dP O O<|aP bo dw O O (v:=.int .u32 (at' v<|(v.length:Int)-1)) O (dP O O<|bP cI cP O<|dP O O<|aD (v:=ak v) O<|dP O O<|aD (v:=ak v) O<|dP O O<|aK bk O<|dP O O<|bL O O hg6<|dP O O<|a9 bk bo dZ (λ_=>O) O O hg7 ?_))))))))))
 refine dP O O<|aP bo dw O O (v:=.int .u32 (at' v<|(v.length:Int)-2)) O (dP O O<|bP cI cP O<|dP O O<|a8 (v:=.int .u64 (IntKind.wrap .u64<|at' v<|(v.length:Int)-1)) O (dP O O<|a8 (v:=.int .u64 (IntKind.wrap .u64<|at' v<|(v.length:Int)-2)) O (dN<|ah<|mvZ (.sl 1 rg 61 g1 0 u.length) O<|ac<|fG bk O<|mvZ (ak v) O<|ac<|aK bk O<|tkZ h (λhg8 h=>ac<|bL O O hg8<|tkZ h (λhg9 h=>wZ rg<|fR bk fV dQ (enc:=AV.int .u32) (z':=0) cM (kk:=1) O O O hg9 (λg2=>asZ (.sl 1 rg 81 g2 0<|Int.toNat<|(u.length:Int)-(v.length:Int)) O<|nZ<|qZ<|ah<|mvZ (.sl 1 rg 81 g2 0<|Int.toNat<|(u.length:Int)-(v.length:Int)) O<|ac<|fG bk O<|tkZ h (λhg10 h=>ac<|bL O O hg10<|stZ h (λj hs1 h=>wZ rg<|a8 (v:=iZ j) (by subst hs1;rfl)<|nZ<|bZ<|lgZ h (g1,g2) (λy=>a_ [(4,.sl 1 rg 81 y.2.2 0 y.1.2.2.length),(9,iZ n),(10,ak v),(11,.sl 1 rg 61 y.2.1 0 y.1.2.1.length),(12,.int .u64 (IntKind.wrap .u64<|at' v<|(v.length:Int)-1)),(13,.int .u64 (IntKind.wrap .u64<|at' v<|(v.length:Int)-2)),(14,iZ y.1.1)]) (λy=>stL S rg [(61,.arr 1 (List.map (AV.int .u32) y.1.2.1),y.2.1),(81,.arr 1 (List.map (AV.int .u32) y.1.2.2),y.2.2)]) (canon (fc (VW.slen lzZ)<|aN<|fZ<|fZ<|fn)<|sc O<|sc O<|sn) (λy _ h=>?_)))))))))
 obtain⟨⟨j1,u1,q⟩,⟨g3,g4⟩⟩:=y
 refine qZ<|ah<|mvZ (iZ j1) O<|ac<|fo O O<|nZ<|cZ h O (λhb3 h=>?_) (λhb3 h=>?_)
 ·refine kZ<|qZ<|bZ<|qZ<|tkZ h (λhg11 h=>tkZ h (λhi h=>tkZ h (λhg12 h=>tkZ h (λhg13 h=>tkZ h (λhi1 h=>Vc.drawn' bG rg (λ_=>gN) krZ<|dP O O<|aD (v:=.sl 1 rg 61 g3 0 u1.length) O<|dP O O<|aD (v:=iZ j1) O<|dP O O<|aD (v:=ak v) O<|dP O O<|aK bk O<|dP O O<|aC O O hg11<|dP O O<|bh bk bo dZ O O hi<|dL (E:=([(rg,61)],[])) O O zSm (cfn) (bY (aZ 61 O) bo dw O (bE hi lzZ) O (v:=.int .u32 (at' u1<|j1+(v.length:Int))) O (dP O O<|bP cI cP O<|dP O O<|pe O O dZ<|dP O O<|aD (v:=.sl 1 rg 61 g3 0 u1.length) O<|dP O O<|aD (v:=iZ j1) O<|dP O O<|aD (v:=ak v) O<|dP O O<|aK bk O<|dP O O<|aC O O hg12<|dP O O<|bL O O hg13<|dP O O<|bh bk bo dZ O O hi1<|dL (E:=([(rg,61)],[])) O O zSm (cfa zAp<|cfn) (bY (aZ 61 O) bo dw O (bE hi1 lzZ) O (v:=.int .u32 (at' u1<|(j1+(v.length:Int))-1)) O (dP O O<|bP cI cP O<|dP O O<|w5 O O<|dP O O<|a8 (v:=.int .u64 (bits .or .u64 (IntKind.wrap .u64<|(IntKind.wrap .u64<|at' u1<|j1+(v.length:Int))*2^(Int.toNat 32)) (IntKind.wrap .u64<|at' u1<|(j1+(v.length:Int))-1))) O (dN<|qZ<|tkZ h (λhg14 h=>tkZ h (λhg15 h=>Vc.drawn' bG rg (λ_=>gN) krZ ?_))))))))))))
  refine dP O O<|aD (v:=.int .u64 (bits .or .u64 (IntKind.wrap .u64<|(IntKind.wrap .u64<|at' u1<|j1+(v.length:Int))*2^(Int.toNat 32)) (IntKind.wrap .u64<|at' u1<|(j1+(v.length:Int))-1))) O (dP O O<|aD (v:=.int .u64 (IntKind.wrap .u64<|at' v<|(v.length:Int)-1)) O (dP O O<|BL O O hg14<|dP O O<|aD (v:=.int .u64 (bits .or .u64 (IntKind.wrap .u64<|(IntKind.wrap .u64<|at' u1<|j1+(v.length:Int))*2^(Int.toNat 32)) (IntKind.wrap .u64<|at' u1<|(j1+(v.length:Int))-1))) O (dP O O<|aD (v:=.int .u64 (IntKind.wrap .u64<|at' v<|(v.length:Int)-1)) O (dP O O<|BK O O hg15<|dP O O<|a8 (v:=.int .u64 (IntKind.wrap .u64<|Int.tdiv (bits .or .u64 (IntKind.wrap .u64<|(IntKind.wrap .u64<|at' u1<|j1+(v.length:Int))*2^(Int.toNat 32)) (IntKind.wrap .u64<|at' u1<|(j1+(v.length:Int))-1)) (IntKind.wrap .u64<|at' v<|(v.length:Int)-1))) O (dP O O<|a8 (v:=.int .u64 (Int.tmod (bits .or .u64 (IntKind.wrap .u64<|(IntKind.wrap .u64<|at' u1<|j1+(v.length:Int))*2^(Int.toNat 32)) (IntKind.wrap .u64<|at' u1<|(j1+(v.length:Int))-1)) (IntKind.wrap .u64<|at' v<|(v.length:Int)-1))) O (dN ?_))))))
  refine jgZ (γ:=Nat×Nat) h (λy=>a_ [(4,.sl 1 rg 81 y.2.2 0 q.length),(9,iZ n),(10,ak v),(11,.sl 1 rg 61 y.2.1 0 u1.length),(12,.int .u64 (IntKind.wrap .u64<|at' v<|(v.length:Int)-1)),(13,.int .u64 (IntKind.wrap .u64<|at' v<|(v.length:Int)-2)),(14,iZ j1),(16,.int .u64 y.1)]) (λy=>stL S rg [(61,.arr 1 (List.map (AV.int .u32) u1),y.2.1),(81,.arr 1 (List.map (AV.int .u32) q),y.2.2)]) (λy h=>?_) (λ_ h=>?_)
  ·obtain⟨guess,⟨g5,g6⟩⟩:=y
   refine jgZ (γ:=Nat×Nat) h (λy=>a_ [(4,.sl 1 rg 81 y.2.2 0 q.length),(9,iZ n),(10,ak v),(11,.sl 1 rg 61 y.2.1 0 y.1.2.length),(12,.int .u64 (IntKind.wrap .u64<|at' v<|(v.length:Int)-1)),(13,.int .u64 (IntKind.wrap .u64<|at' v<|(v.length:Int)-2)),(14,iZ j1),(16,.int .u64 y.1.1)]) (λy=>stL S rg [(61,.arr 1 (List.map (AV.int .u32) y.1.2),y.2.1),(81,.arr 1 (List.map (AV.int .u32) q),y.2.2)]) (λy h=>?_) (λ_ h=>?_)
   ·obtain⟨⟨guess1,u2⟩,⟨g7,g8⟩⟩:=y
    exact rZ<|mvZ (.sl 1 rg 81 g8 0 q.length) O<|mvZ (iZ j1) O<|mvZ (.int .u64 guess1) O<|ac<|bP cP cI O<|tkZ h (λhi2 h=>ac<|bh bk bo dZ O O hi2<|ac<|bM (aZ 81 O) bo dZ (x':=(IntKind.wrap .u32 guess1)) (λ_=>O) O O (bE hi2 lzZ) O O aQ<|nZ<|rZ<|mvZ (iZ j1) O<|tkZ h (λhg16 h=>ac<|bL O O hg16<|asZ (iZ<|j1-1) O<|nZ<|⟨(((j1-1),u2,(bu q j1<|IntKind.wrap .u32 guess1)),(g7,g8)),(canon (fc (VW.slen lzZ)<|aN<|fZ<|fZ<|fn)<|sc O<|sc O<|sn),h⟩))
   refine ah<|mvZ (.sl 1 rg 61 g5 0 u1.length) O<|mvZ (iZ j1) O<|mvZ (iZ j1) O<|mvZ (ak v) O<|ac<|aK bk O<|tkZ h (λhg17 h=>ac<|aC O O hg17<|tkZ h (λhg18 h=>ac<|aC O O hg18<|tkZ h (λhsl h=>ac<|zE bk bo dZ O (l:=j1) (h:=((j1+(v.length:Int))+1)) O O hsl (mvZ (ak v) O<|mvZ (.int .u64 guess) O<|ac<|clZ O<|eX (xk<|aZ 61 O)<|sO h λu3 r5 h=>co aQ<|tkZ h (λhl h=>nZ<|cZ h O (λhb4 h=>?_) (λhb4 h=>?_))))))
   ·exact ah<|mvZ (.int .u64 guess) O<|ac<|qj O O<|asZ (.int .u64<|IntKind.wrap .u64<|guess-1) O<|nZ<|rZ<|mvZ (.sl 1 rg 61 g5 0 u1.length) O<|mvZ (iZ j1) O<|mvZ (iZ j1) O<|mvZ (ak v) O<|ac<|aK bk O<|tkZ h (λhg19 h=>ac<|aC O O hg19<|tkZ h (λhg20 h=>ac<|aC O O hg20<|tkZ h (λhsl1 h=>ac<|zE bk bo dZ O (l:=j1) (h:=((j1+(v.length:Int))+1)) O O hsl1 (mvZ (ak v) O<|ac<|clZ O<|eX (xk<|aZ 61 O)<|sQ h λu4 h=>co aQ<|tkZ h (λhl1 h=>nZ<|⟨(((IntKind.wrap .u64<|guess-1),u4),(g5,g6)),(canon (fZ<|fZ<|fZ<|fc (VW.slen lzZ)<|aN<|fn)<|sc O<|sc O<|sn),h⟩)))))
   exact kZ<|⟨((guess,u3),(g5,g6)),(canon (fZ<|fZ<|fZ<|fc (VW.slen lzZ)<|aN<|fn)<|sc O<|sc O<|sn),h⟩
  refine bZ<|lgZ h (g3,g4) (λy=>a_ [(4,.sl 1 rg 81 y.2.2 0 q.length),(9,iZ n),(10,ak v),(11,.sl 1 rg 61 y.2.1 0 u1.length),(12,.int .u64 (IntKind.wrap .u64<|at' v<|(v.length:Int)-1)),(13,.int .u64 (IntKind.wrap .u64<|at' v<|(v.length:Int)-2)),(14,iZ j1),(16,.int .u64 y.1.1),(17,.int .u64 y.1.2)]) (λy=>stL S rg [(61,.arr 1 (List.map (AV.int .u32) u1),y.2.1),(81,.arr 1 (List.map (AV.int .u32) q),y.2.2)]) (canon (aN<|aN<|fZ<|fn)<|sc O<|sc O<|sn) (λy _ h=>?_)
  obtain⟨⟨guess2,rest⟩,⟨g9,g10⟩⟩:=y
  refine jgZ (γ:=Nat×Nat) h (λy=>a_ [(4,.sl 1 rg 81 y.2.2 0 q.length),(9,iZ n),(10,ak v),(11,.sl 1 rg 61 y.2.1 0 u1.length),(12,.int .u64 (IntKind.wrap .u64<|at' v<|(v.length:Int)-1)),(13,.int .u64 (IntKind.wrap .u64<|at' v<|(v.length:Int)-2)),(14,iZ j1),(16,.int .u64 guess2),(17,.int .u64 rest)]) (λy=>stL S rg [(61,.arr 1 (List.map (AV.int .u32) u1),y.2.1),(81,.arr 1 (List.map (AV.int .u32) q),y.2.2)]) (λy h=>?_) (λ_ h=>?_)
  ·obtain⟨_,⟨g11,g12⟩⟩:=y
   refine bZ<|ah<|mvZ (.int .u64 guess2) O<|ac<|qj O O<|asZ (.int .u64<|IntKind.wrap .u64<|guess2-1) O<|aU<|mvZ (.int .u64 rest) O<|mvZ (.int .u64<|IntKind.wrap .u64<|at' v<|(v.length:Int)-1) O<|ac<|nG O O<|stZ h (λrest1 hs2 h=>wZ rg<|a8 (v:=.int .u64 rest1) (by subst hs2;rfl)<|aU<|mvZ (.int .u64 rest1) O<|ac<|fo O O<|nZ<|cZ h O (λhb5 h=>?_) (λhb5 h=>?_))
   ·exact xnZ O<|z8<|⟨((IntKind.wrap .u64<|guess2-1),(g11,g12)),(canon (aN<|aN<|fn)<|sc O<|sc O<|sn),h⟩
   exact kZ<|⟨(((IntKind.wrap .u64<|guess2-1),rest1),(g11,g12)),(canon (aN<|aN<|fZ<|fn)<|sc O<|sc O<|sn),h⟩
  refine ah<|mvZ (.int .u64 guess2) O<|ac<|fo O O<|mvZ (.bool<|decide<|4294967296<=guess2) O<|gfZ h O O (λhb6 h=>?_) (λhb6 h=>?_)
  ·refine mvZ (.int .u64 guess2) O<|gTZ O O hb6<|mvZ (.int .u64<|IntKind.wrap .u64<|at' v<|(v.length:Int)-2) O<|gTZ O O hb6<|ac<|zF O O<|gTZ O O hb6<|mvZ (.int .u64 rest) O<|gTZ O O hb6<|ac<|pe O O dZ<|gTZ O O hb6<|mvZ (.sl 1 rg 61 g9 0 u1.length) O<|gTZ O O hb6<|mvZ (iZ j1) O<|gTZ O O hb6<|mvZ (ak v) O<|gTZ O O hb6<|ac<|aK bk O<|gTZ O O hb6<|tkZ h (λhg21 h=>ac<|aC O O hg21<|gTZ O O hb6<|tkZ h (λhg22 h=>ac<|bL O O hg22<|gTZ O O hb6<|tkZ h (λhi3 h=>ac<|bh bk bo dZ O O hi3<|gTZ O O hb6<|ac<|bY (aZ 61 O) bo dw O (bE hi3 lzZ) O (v:=.int .u32 (at' u1<|(j1+(v.length:Int))-2)) O (gTZ O O hb6<|ac<|bP cI cP O<|gTZ O O hb6<|ac<|w5 O O<|gTZ O O hb6<|ac<|cY O O<|ac<|aY O hb6 (v:=.bool (decide<|(bits .or .u64 (IntKind.wrap .u64<|rest*2^(Int.toNat 32))<|IntKind.wrap .u64<|at' u1<|(j1+(v.length:Int))-2)<(IntKind.wrap .u64<|guess2*(IntKind.wrap .u64<|at' v<|(v.length:Int)-2)))) O (nZ<|cZ h O (λhb7 h=>?_) (λhb7 h=>?_))))))
   ·exact kZ<|⟨((),(g9,g10)),(canon (aN<|aN<|fZ<|fn)<|sc O<|sc O<|sn),h⟩
   exact xsZ<|⟨(guess2,(g9,g10)),(canon (aN<|aN<|fn)<|sc O<|sc O<|sn),h⟩
  exact gFZ O O hb6 O<|gFZ O O hb6 O<|gFZ O O hb6 O<|gFZ O O hb6 O<|gFZ O O hb6 O<|gFZ O O hb6 O<|gFZ O O hb6 O<|gFZ O O hb6 O<|gFZ O O hb6 O<|gFZ O O hb6 O<|gFZ O O hb6 O<|gFZ O O hb6 O<|gFZ O O hb6 O<|gFZ O O hb6 O<|gFZ O O hb6 O<|ac<|aS O hb6 (v:=.bool true) O<|nZ<|cTZ O O<|kZ<|⟨((),(g9,g10)),(canon (aN<|aN<|fZ<|fn)<|sc O<|sc O<|sn),h⟩
 exact xsZ<|ah<|mvZ (.sl 1 rg 81 g4 0 q.length) O<|eS (bt (k:=81) (xs:=List.map (AV.int .u32) q) O (es:=[(9,iZ n),(11,.sl 1 rg 61 g3 0 u1.length),(169,ak q)]) (fZ<|fc (ft O)<|fc (bg O)<|fn) (m:=[(61,.arr 1 (List.map (AV.int .u32) u1),g3)]) (sc O<|sn)) (ac<|clZ O<|b6 h λq1 h=>mvZ (.sl 1 rg 61 g3 0 u1.length) O<|mvZ (iZ n) O<|eS (bt (k:=61) (xs:=List.map (AV.int .u32) u1) O (es:=[(170,ak q1),(171,ak u1),(172,iZ n)]) (fZ<|fc (bg O)<|fZ<|fn) (m:=[]) (sn)) (ac<|clZ O<|rC h λr6 h=>ac<|clZ O<|b6 h λr7 h=>asZ (ak q1) O<|asZ (ak r7) O<|asZ .niface O<|aE<|aB (v:=ak q1) O<|aB (v:=ak r7) O<|aB (v:=.niface) O<|aJ<|aO hrg (VW.tupL<|vZ<|vZ<|vZ<|vn)<|hQ _ _ _ h))
theorem oF {a:List Int} {b:List Int} {Q:List Int->Prop} (h:ko a b Q) (hQ:∀r1,Q r1->R (ak r1) S) :
  Ctr prog 91 [ak a,ak b] S R:=by
 refine aG func91 rfl ntmps91 results91 krZ (λrg hrg=>?_)
 refine ah<|asZ .nil O<|aU<|mvZ (ak a) O<|ac<|clZ O<|b6 h λa1 h=>mvZ (ak b) O<|ac<|clZ O<|b6 h λb1 h=>asZ (ak a1) O<|asZ (ak b1) O<|nZ<|qZ<|bZ<|lpZ h (λy=>a_ [(0,ak y.1),(1,ak y.2)]) (λy=>stL S rg []) (canon (fZ<|fZ<|fn)<|sn) (λy _ h=>?_)
 obtain⟨a2,b2⟩:=y
 refine qZ<|ah<|mvZ (ak b2) O<|ac<|aK bk O<|ac<|cY O O<|nZ<|cZ h O (λhb h=>?_) (λhb h=>?_)
 ·exact kZ<|bZ<|ah<|mvZ (ak a2) O<|mvZ (ak b2) O<|ac<|clZ O<|kU h λr r1 r2 h=>mvZ (.tuple [ak r,ak r1,aW 41 r2]) O<|ac<|au (v:=ak r) O O O<|ac<|au (v:=ak r1) O O O<|ac<|au (v:=aW 41 r2) O O O<|asZ (ak r) O<|asZ (ak r1) O<|asZ (aW 41 r2) O<|nZ<|rZ<|mvZ (ak b2) O<|mvZ (ak r1) O<|asZ (ak b2) O<|asZ (ak r1) O<|nZ<|⟨(b2,r1),(canon (fZ<|fZ<|fn)<|sn),h⟩
 exact xsZ<|ah<|mvZ (ak a2) O<|asZ (ak a2) O<|aE<|gv1 hrg<|hQ _ h
theorem sR {a:List Int} {Q:Int->Prop} (h:mc a Q) (hQ:∀r1,Q r1->R (iZ r1) S) :
  Ctr prog 95 [ak a] S R:=by
 refine aG func95 rfl ntmps95 results95 krZ (λrg hrg=>?_)
 refine ah<|asZ (iZ 0) O<|nZ<|qZ<|ah<|mvZ (ak a) O<|ac<|aK bk O<|tkZ h (λhg h=>ac<|bL O O hg<|asZ (iZ<|(a.length:Int)-1) O<|nZ<|bZ<|lpZ h (λy=>a_ [(0,ak a),(3,iZ y)]) (λy=>stL S rg []) (canon (fZ<|fZ<|fn)<|sn) (λi _ h=>qZ<|ah<|mvZ (iZ i) O<|ac<|fo O O<|nZ<|cZ h O (λhb h=>?_) (λhb h=>?_)))
 ·refine kZ<|qZ<|bZ<|ah<|mvZ (ak a) O<|mvZ (iZ i) O<|tkZ h (λhg1 h=>ac<|a9 bk bo dZ (λ_=>O) O O hg1<|ac<|aP bo dw O O (v:=.int .u32 (at' a i)) O<|ac<|fA O O<|nZ<|cZ h O (λhb1 h=>?_) (λhb1 h=>?_))
  ·exact ah<|mvZ (iZ i) O<|tkZ h (λhg2 h=>ac<|i5 O O hg2<|mvZ (ak a) O<|mvZ (iZ i) O<|tkZ h (λhg3 h=>ac<|a9 bk bo dZ (λ_=>O) O O hg3<|ac<|aP bo dw O O (v:=.int .u32 (at' a i)) O<|ac<|clZ O<|lm h λr h=>tkZ h (λhg4 h=>ac<|aC O O hg4<|asZ (iZ<|(32*i)+r) O<|aE<|gv1 hrg<|hQ _ h)))
  exact kZ<|rZ<|mvZ (iZ i) O<|tkZ h (λhg5 h=>ac<|bL O O hg5<|asZ (iZ<|i-1) O<|nZ<|⟨(i-1),(canon (fZ<|fZ<|fn)<|sn),h⟩)
 exact xsZ<|ah<|asZ (iZ 0) O<|aE<|gv1 hrg<|hQ _ h
theorem eH {a:List Int} {b:List Int} {Q:List Int->Prop} (h:di a b Q) (hQ:∀r1,Q r1->R (ak r1) S) :
  Ctr prog 61 [ak a,ak b] S R:=by
 refine aG func61 rfl ntmps61 results61 krZ (λrg hrg=>?_)
 refine ah<|asZ .nil O<|aU<|mvZ (ak a) O<|ac<|aK bk O<|mvZ (ak b) O<|ac<|aK bk O<|tkZ h (λhg h=>ac<|aC O O hg<|tkZ h (λhg1 h=>wZ rg<|fR bk fV dQ (enc:=AV.int .u32) (z':=0) cM (kk:=1) O O O hg1 (λg1=>asZ (.sl 1 rg 16 g1 0<|Int.toNat<|(a.length:Int)+(b.length:Int)) O (nZ<|qZ<|ah<|mvZ (ak a) O<|ac<|aK bk O<|mvZ (iZ 0) O<|nZ<|bZ<|lpZ h (λy=>a_ [(1,ak b),(5,.sl 1 rg 16 g1 0 y.2.length),(17,ak a),(18,iZ (a.length:Int)),(19,iZ y.1)]) (λy=>stL S rg [(16,.arr 1 (List.map (AV.int .u32) y.2),g1)]) (canon (fZ<|fc (VW.slen lzZ)<|fZ<|fZ<|fZ<|fn)<|sc O<|sn) (λy _ h=>?_)))))
 obtain⟨x,out⟩:=y
 refine ah<|ac<|bi O O<|nZ<|qZ<|cZ h O (λhb h=>?_) (λhb h=>?_)
 ·refine kZ<|qZ<|bZ<|ah<|mvZ (iZ x) O<|tkZ h (λhg2 h=>ac<|a9 bk bo dZ (λ_=>O) O O hg2<|ac<|aP bo dw O O (v:=.int .u32 (at' a x)) O<|asZ (iZ x) O<|asZ (.int .u32<|at' a x) O<|aU<|asZ (.int .u64 0) O<|nZ<|qZ<|ah<|mvZ (ak b) O<|ac<|aK bk O<|mvZ (iZ 0) O<|nZ<|bZ<|lpZ h (λy=>a_ [(1,ak b),(5,.sl 1 rg 16 g1 0 y.2.2.length),(6,iZ x),(7,.int .u32 (at' a x)),(8,.int .u64 y.1),(17,ak a),(18,iZ (a.length:Int)),(19,iZ x),(24,ak b),(25,iZ (b.length:Int)),(26,iZ y.2.1)]) (λy=>stL S rg [(16,.arr 1 (List.map (AV.int .u32) y.2.2),g1)]) (canon (aN<|aN<|fZ<|fZ<|fZ<|fn)<|sc O<|sn) (λy _ h=>?_))
  obtain⟨carry,x1,out1⟩:=y
  refine ah<|ac<|bi O O<|nZ<|qZ<|cZ h O (λhb1 h=>?_) (λhb1 h=>?_)
  ·refine kZ<|qZ<|bZ<|ah<|mvZ (iZ x1) O<|tkZ h (λhg3 h=>ac<|a9 bk bo dZ (λ_=>O) O O hg3<|ac<|aP bo dw O O (v:=.int .u32 (at' b x1)) O<|asZ (iZ x1) O<|asZ (.int .u32<|at' b x1) O<|aU<|mvZ (.int .u64 carry) O<|mvZ (.int .u32<|at' a x) O<|ac<|bP cI cP O<|mvZ (.int .u32<|at' b x1) O<|ac<|bP cI cP O<|ac<|zF O O<|mvZ (.sl 1 rg 16 g1 0 out1.length) O<|mvZ (iZ x) O<|mvZ (iZ x1) O<|tkZ h (λhg4 h=>ac<|aC O O hg4<|tkZ h (λhi h=>ac<|bh bk bo dZ O O hi<|ac<|bY (aZ 16 O) bo dw O (bE hi lzZ) O (v:=.int .u32 (at' out1<|x+x1)) O (ac<|bP cI cP O<|ac<|nG O O<|ac<|nG O O<|stZ h (λcarry1 hs h=>wZ rg<|a8 (v:=.int .u64 carry1) (by subst hs;rfl)<|aU<|mvZ (.sl 1 rg 16 g1 0 out1.length) O<|mvZ (iZ x) O<|mvZ (iZ x1) O<|tkZ h (λhg5 h=>ac<|aC O O hg5<|mvZ (.int .u64 carry1) O<|ac<|bP cP cI O<|tkZ h (λhi1 h=>ac<|bh bk bo dZ O O hi1<|ac<|bM (aZ 16 O) bo dZ (x':=(IntKind.wrap .u32 carry1)) (λ_=>O) O O (bE hi1 lzZ) O O aQ<|nZ<|rZ<|mvZ (.int .u64 carry1) O<|ac<|je O O dZ<|asZ (.int .u64<|carry1 / 2^(Int.toNat 32)) O<|nZ<|rZ<|tkZ h (λhg6 h=>ac<|aC O O hg6<|mvZ (iZ<|x1+1) O<|nZ ?_))))))))
   exact⟨((carry1 / 2^(Int.toNat 32)),(x1+1),(bu out1 (x+x1)<|IntKind.wrap .u32 carry1)),(canon (fZ<|fc (VW.slen lzZ)<|aN<|aN<|fZ<|fn)<|sc O<|sn),h⟩
  exact xsZ<|rZ<|mvZ (.sl 1 rg 16 g1 0 out1.length) O<|mvZ (iZ x) O<|mvZ (ak b) O<|ac<|aK bk O<|tkZ h (λhg7 h=>ac<|aC O O hg7<|mvZ (.int .u64 carry) O<|ac<|bP cP cI O<|tkZ h (λhi2 h=>ac<|bh bk bo dZ O O hi2<|ac<|bM (aZ 16 O) bo dZ (x':=(IntKind.wrap .u32 carry)) (λ_=>O) O O (bE hi2 lzZ) O O aQ<|nZ<|rZ<|tkZ h (λhg8 h=>ac<|aC O O hg8<|mvZ (iZ<|x+1) O<|nZ<|⟨((x+1),(bu out1 (x+(b.length:Int))<|IntKind.wrap .u32 carry)),(canon (fZ<|fc (VW.slen lzZ)<|fZ<|fZ<|fZ<|fn)<|sc O<|sn),h⟩)))
 exact xsZ<|ah<|mvZ (.sl 1 rg 16 g1 0 out.length) O<|eS (bt (k:=16) (xs:=List.map (AV.int .u32) out) O (es:=[(65,ak out)]) (fc (bg O)<|fn) (m:=[])<|sn)<|ac<|clZ O<|b6 h λr h=>asZ (ak r) O<|aE<|gv1 hrg<|hQ _ h
theorem ud {a:List Int} {b:List Int} {Q:List Int->Prop} (h:kp a b Q) (hQ:∀r1,Q r1->R (ak r1) S) :
  Ctr prog 82 [ak a,ak b] S R:=by
 refine aG func82 rfl ntmps82 results82 krZ (λrg hrg=>?_)
 refine ah<|asZ .nil O<|aU<|mvZ (ak a) O<|ac<|aK bk O<|mvZ (ak b) O<|ac<|aK bk O<|ac<|zG O O<|tkZ h (λhg h=>ac<|aC O O hg<|tkZ h (λhg1 h=>wZ rg<|fR bk fV dQ (enc:=AV.int .u32) (z':=0) cM (kk:=1) O O O hg1 (λg1=>asZ (.sl 1 rg 14 g1 0<|Int.toNat<|(max (a.length:Int) (b.length:Int))+1) O (aU<|asZ (.int .u64 0) O<|nZ<|qZ<|ah<|mvZ (.sl 1 rg 14 g1 0<|Int.toNat<|(max (a.length:Int) (b.length:Int))+1) O (ac<|fG bk O<|mvZ (iZ 0) O<|nZ<|bZ<|lpZ h (λy=>a_ [(0,ak a),(1,ak b),(5,.sl 1 rg 14 g1 0 y.2.2.length),(6,.int .u64 y.1),(16,iZ ((Int.toNat<|(max (a.length:Int) (b.length:Int))+1):Int)),(17,iZ y.2.1)]) (λy=>stL S rg [(14,.arr 1 (List.map (AV.int .u32) y.2.2),g1)]) (canon (fZ<|fZ<|fc (VW.slen lzZ)<|fZ<|fZ<|fZ<|fn)<|sc O<|sn) (λy _ h=>?_))))))
 obtain⟨carry,x,out⟩:=y
 refine ah<|ac<|bi O O<|nZ<|qZ<|cZ h O (λhb h=>?_) (λhb h=>?_)
 ·exact kZ<|qZ<|bZ<|ah<|mvZ (iZ x) O<|asZ (iZ x) O<|aU<|mvZ (.int .u64 carry) O<|mvZ (ak a) O<|mvZ (iZ x) O<|ac<|clZ O<|dd h λr h=>mvZ (ak b) O<|mvZ (iZ x) O<|ac<|clZ O<|dd h λr1 h=>ac<|nG O O<|ac<|nG O O<|stZ h (λcarry1 hs h=>wZ rg<|a8 (v:=.int .u64 carry1) (by subst hs;rfl)<|aU<|mvZ (.sl 1 rg 14 g1 0 out.length) O<|mvZ (iZ x) O<|mvZ (.int .u64 carry1) O<|ac<|bP cP cI O<|tkZ h (λhi h=>ac<|bh bk bo dZ O O hi<|ac<|bM (aZ 14 O) bo dZ (x':=(IntKind.wrap .u32 carry1)) (λ_=>O) O O (bE hi lzZ) O O aQ<|nZ<|rZ<|mvZ (.int .u64 carry1) O<|ac<|je O O dZ<|asZ (.int .u64<|carry1 / 2^(Int.toNat 32)) O<|nZ<|rZ<|tkZ h (λhg2 h=>ac<|aC O O hg2<|mvZ (iZ<|x+1) O<|nZ<|⟨((carry1 / 2^(Int.toNat 32)),(x+1),(bu out x<|IntKind.wrap .u32 carry1)),(canon (fZ<|fZ<|fc (VW.slen lzZ)<|fZ<|fZ<|fZ<|fn)<|sc O<|sn),h⟩)))
 exact xsZ<|ah<|mvZ (.sl 1 rg 14 g1 0 out.length) O<|eS (bt (k:=14) (xs:=List.map (AV.int .u32) out) O (es:=[(37,ak out)]) (fc (bg O)<|fn) (m:=[])<|sn)<|ac<|clZ O<|b6 h λr2 h=>asZ (ak r2) O<|aE<|gv1 hrg<|hQ _ h
theorem oE {a:List Int} {b:List Int} {Q:List Int->Option Int->Prop} (h:kn a b Q) (hQ:∀r1 r2,Q r1 r2->R (.tuple [ak r1,aW 41 r2]) S) :
  Ctr prog 83 [ak a,ak b] S R:=by
 refine aG func83 rfl ntmps83 results83 krZ (λrg hrg=>?_)
 refine ah<|asZ .nil O<|asZ .niface O<|nZ<|qZ<|ah<|mvZ (ak a) O<|mvZ (ak b) O<|ac<|clZ O<|gt h λr h=>ac<|bi O O<|nZ<|cZ h O (λhb h=>?_) (λhb h=>?_)
 ·exact ah<|ac<|cp (by rw[gQ];trivial) (v:=iZ 3) O<|asZ .nil O<|asZ (.iface 41<|iZ 3) O<|aE<|aB (v:=.nil) O<|aB (v:=.iface 41 (iZ 3)) O<|aJ<|aO hrg (VW.tupL<|vl' (VW.nilL)<|vZ<|vn)<|hQ _ _ h
 refine kZ<|ah<|mvZ (ak a) O<|ac<|aK bk O<|tkZ h (λhg h=>wZ rg<|fR bk fV dQ (enc:=AV.int .u32) (z':=0) cM (kk:=1) O O O hg (λg1=>asZ (.sl 1 rg 17 g1 0<|Int.toNat (a.length:Int)) O<|aU<|asZ (.int .u64 0) O<|nZ<|qZ<|ah<|mvZ (.sl 1 rg 17 g1 0<|Int.toNat (a.length:Int)) O<|ac<|fG bk O<|mvZ (iZ 0) O<|nZ<|bZ<|lpZ h (λy=>a_ [(0,ak a),(1,ak b),(6,.sl 1 rg 17 g1 0 y.2.2.length),(7,.int .u64 y.1),(19,iZ ((Int.toNat (a.length:Int)):Int)),(20,iZ y.2.1)]) (λy=>stL S rg [(17,.arr 1 (List.map (AV.int .u32) y.2.2),g1)]) (canon (fZ<|fZ<|fc (VW.slen lzZ)<|fZ<|fZ<|fZ<|fn)<|sc O<|sn) (λy _ h=>?_)))
 obtain⟨borrow,x,out⟩:=y
 refine ah<|ac<|bi O O<|nZ<|qZ<|cZ h O (λhb1 h=>?_) (λhb1 h=>?_)
 ·exact kZ<|qZ<|bZ<|ah<|mvZ (iZ x) O<|asZ (iZ x) O<|aU<|mvZ (ak a) O<|mvZ (iZ x) O<|ac<|clZ O<|dd h λr1 h=>mvZ (ak b) O<|mvZ (iZ x) O<|ac<|clZ O<|dd h λr2 h=>ac<|qj O O<|mvZ (.int .u64 borrow) O<|ac<|qj O O<|stZ h (λd hs h=>wZ rg<|a8 (v:=.int .u64 d) (by subst hs;rfl)<|aU<|mvZ (.sl 1 rg 17 g1 0 out.length) O<|mvZ (iZ x) O<|mvZ (.int .u64 d) O<|ac<|bP cP cI O<|tkZ h (λhi h=>ac<|bh bk bo dZ O O hi<|ac<|bM (aZ 17 O) bo dZ (x':=(IntKind.wrap .u32 d)) (λ_=>O) O O (bE hi lzZ) O O aQ<|nZ<|rZ<|mvZ (.int .u64 d) O<|ac<|je O O dZ<|asZ (.int .u64<|d / 2^(Int.toNat 63)) O<|nZ<|rZ<|tkZ h (λhg1 h=>ac<|aC O O hg1<|mvZ (iZ<|x+1) O<|nZ<|⟨((d / 2^(Int.toNat 63)),(x+1),(bu out x<|IntKind.wrap .u32 d)),(canon (fZ<|fZ<|fc (VW.slen lzZ)<|fZ<|fZ<|fZ<|fn)<|sc O<|sn),h⟩)))
 exact xsZ<|ah<|mvZ (.sl 1 rg 17 g1 0 out.length) O<|eS (bt (k:=17) (xs:=List.map (AV.int .u32) out) O (es:=[(40,ak out)]) (fc (bg O)<|fn) (m:=[])<|sn)<|ac<|clZ O<|b6 h λr3 h=>asZ (ak r3) O<|asZ .niface O<|aE<|aB (v:=ak r3) O<|aB (v:=.niface) O<|aJ<|aO hrg (VW.tupL<|vZ<|vZ<|vn)<|hQ _ _ h
theorem lZ {a:List Int} {Q:Int->Prop} (h:jv a Q) (hQ:∀r1,Q r1->R (iZ r1) S) :
  Ctr prog 88 [ak a] S R:=by
 refine aG func88 rfl ntmps88 results88 krZ (λrg hrg=>?_)
 refine ah<|asZ (iZ 0) O<|aU<|asZ (iZ 0) O<|nZ<|qZ<|ah<|mvZ (ak a) O<|ac<|aK bk O<|mvZ (iZ 0) O<|nZ<|bZ<|lpZ h (λy=>a_ [(3,iZ y.1),(7,ak a),(8,iZ (a.length:Int)),(9,iZ y.2)]) (λy=>stL S rg []) (canon (aN<|fn)<|sn) (λy _ h=>?_)
 obtain⟨n,x⟩:=y
 refine ah<|ac<|bi O O<|nZ<|qZ<|cZ h O (λhb h=>?_) (λhb h=>?_)
 ·refine kZ<|qZ<|bZ<|ah<|mvZ (iZ x) O<|tkZ h (λhg h=>ac<|a9 bk bo dZ (λ_=>O) O O hg<|ac<|aP bo dw O O (v:=.int .u32 (at' a x)) O<|asZ (iZ x) O<|asZ (.int .u32<|at' a x) O<|aU<|mvZ (iZ 0) O<|nZ<|bZ<|lpZ h (λy=>a_ [(3,iZ y.1),(4,iZ x),(5,.int .u32 (at' a x)),(7,ak a),(8,iZ (a.length:Int)),(9,iZ x),(14,iZ y.2)]) (λy=>stL S rg []) (canon (aN<|fZ<|fZ<|fZ<|fn)<|sn) (λy _ h=>?_))
  obtain⟨n1,x1⟩:=y
  refine ah<|ac<|bi O O<|nZ<|qZ<|cZ h O (λhb1 h=>?_) (λhb1 h=>?_)
  ·refine kZ<|qZ<|bZ<|ah<|mvZ (iZ x1) O<|asZ (iZ x1) O<|aU<|mvZ (.int .u32<|at' a x) O<|mvZ (iZ x1) O<|tkZ h (λhg1 h=>ac<|je O O hg1<|ac<|Ea O O<|ac<|bJ O O<|nZ<|cZ h O (λhb2 h=>?_) (λhb2 h=>?_))
   ·exact rZ<|mvZ (iZ x) O<|tkZ h (λhg2 h=>ac<|i5 O O hg2<|mvZ (iZ x1) O<|tkZ h (λhg3 h=>ac<|aC O O hg3<|tkZ h (λhg4 h=>ac<|aC O O hg4<|asZ (iZ<|((32*x)+x1)+1) O (nZ<|rZ<|tkZ h (λhg5 h=>ac<|aC O O hg5<|mvZ (iZ<|x1+1) O<|nZ<|⟨((((32*x)+x1)+1),(x1+1)),(canon (aN<|fZ<|fZ<|fZ<|fn)<|sn),h⟩)))))
   exact kZ<|rZ<|tkZ h (λhg6 h=>ac<|aC O O hg6<|mvZ (iZ<|x1+1) O<|nZ<|⟨(n1,(x1+1)),(canon (aN<|fZ<|fZ<|fZ<|fn)<|sn),h⟩)
  exact xsZ<|rZ<|tkZ h (λhg7 h=>ac<|aC O O hg7<|mvZ (iZ<|x+1) O<|nZ<|⟨(n1,(x+1)),(canon (aN<|fn)<|sn),h⟩)
 exact xsZ<|ah<|mvZ (iZ n) O<|asZ (iZ n) O<|aE<|gv1 hrg<|hQ _ h
theorem c5 {a:List Int} {Q:List Int->Prop} (h:c7 a Q) (hQ:∀r1,Q r1->R (ak r1) S) :
  Ctr prog 123 [ak a] S R:=by
 refine aG func123 rfl ntmps123 results123 krZ (λrg hrg=>?_)
 refine ah<|asZ .nil O<|aU<|mvZ (ak a) O<|ac<|aK bk O<|asZ (iZ (a.length:Int)) O<|nZ<|jnZ h (λy=>a_ [(0,ak a),(3,iZ y)]) (λy=>stL S rg []) (λn h=>?_) (λ_ h=>?_)
 ·exact ah<|wZ rg<|bq bk dQ cM (es:=[]) O (kk:=1) O O O O O O (λg1=>mvZ (ak a) O<|mvZ (iZ n) O<|tkZ h (λhg h=>ac<|jB bk bo dZ (λ_=>O) O (l:=0) (h:=n) O O hg<|tkZ h (λhg1 h=>wZ rg<|cF bk fV dQ cM (es:=([]:List Int)) (xs:=(cg a 0 n)) (enc:=AV.int .u32) (aZ 18 O) lzZ (O) (kk:=1) O O (λ_=>O) (λ_=>O) hg1 O (λ_=>aQ) (λg2=>asZ (.sl 1 rg 18 g2 0<|(([]:List Int)++(cg a 0 n)).length) O (aE<|aB (v:=.sl 1 rg 18 g2 0 ((([]:List Int)++(cg a 0 n)).length)) O (aJ<|br (k:=18) (xs:=List.map (AV.int .u32) (([]:List Int)++(cg a 0 n))) O (v':=ak (([]:List Int)++(cg a 0 n))) (bg O) (goZ hrg<|hQ _ h)))))))
 refine bZ<|lpZ h (λy=>a_ [(0,ak a),(3,iZ y)]) (λy=>stL S rg []) (canon (fZ<|fZ<|fn)<|sn) (λn1 _ h=>qZ<|ah<|mvZ (iZ n1) O<|ac<|cY O O<|mvZ (.bool<|decide<|0<n1) O<|gtZ h O O (λhb h=>?_) (λhb h=>?_))
 ·refine mvZ (ak a) O<|gTZ O O hb<|mvZ (iZ n1) O<|gTZ O O hb<|tkZ h (λhg2 h=>ac<|bL O O hg2<|gTZ O O hb<|tkZ h (λhg3 h=>ac<|a9 bk bo dZ (λ_=>O) O O hg3<|gTZ O O hb<|ac<|aP bo dw O O (v:=.int .u32 (at' a<|n1-1)) O (gTZ O O hb<|ac<|bJ O O<|ac<|aS O hb (v:=.bool ((at' a<|n1-1) == 0)) O (nZ<|cZ h O (λhb1 h=>?_) (λhb1 h=>?_)))))
  ·exact kZ<|bZ<|rZ<|mvZ (iZ n1) O<|tkZ h (λhg4 h=>ac<|bL O O hg4<|asZ (iZ<|n1-1) O<|nZ<|⟨(n1-1),(canon (fZ<|fZ<|fn)<|sn),h⟩)
  exact xsZ<|⟨n1,(canon (fZ<|fZ<|fn)<|sn),h⟩
 exact gFZ O O hb O<|gFZ O O hb O<|gFZ O O hb O<|gFZ O O hb O<|gFZ O O hb O<|ac<|aY O hb (v:=.bool false) O<|nZ<|cFZ O O<|xsZ<|⟨n1,(canon (fZ<|fZ<|fn)<|sn),h⟩
theorem cn {a:List Int} {i:Int} {Q:Int->Prop} (h:cr a i Q) (hQ:∀r1,Q r1->R (AV.int .u64 r1) S) :
  Ctr prog 145 [ak a,iZ i] S R:=by
 refine aG func145 rfl ntmps145 results145 krZ (λrg hrg=>?_)
 refine ah<|asZ (.int .u64 0) O<|nZ<|qZ<|ah<|mvZ (iZ i) O<|mvZ (ak a) O<|ac<|aK bk O<|ac<|bi O O<|nZ<|cZ h O (λhb h=>?_) (λhb h=>?_)
 ·exact ah<|mvZ (ak a) O<|mvZ (iZ i) O<|tkZ h (λhg h=>ac<|a9 bk bo dZ (λ_=>O) O O hg<|ac<|aP bo dw O O (v:=.int .u32 (at' a i)) O<|ac<|bP cI cP O<|asZ (.int .u64<|IntKind.wrap .u64<|at' a i) O<|aE<|gv1 hrg<|hQ _ h)
 exact kZ<|ah<|asZ (.int .u64 0) O<|aE<|gv1 hrg<|hQ _ h
theorem km {a:List Int} {b:List Int} {Q:List Int->Prop} (h:gV a b Q) (hQ:∀r1,Q r1->R (ak r1) S) :
  Ctr prog 114 [ak a,ak b] S R:=by
 refine aG func114 rfl ntmps114 results114 krZ (λrg hrg=>?_)
 refine ah<|asZ .nil O<|aU<|mvZ (ak a) O<|ac<|aK bk O<|mvZ (ak b) O<|ac<|aK bk O<|tkZ h (λhg h=>ac<|aC O O hg<|tkZ h (λhg1 h=>ac<|aC O O hg1<|tkZ h (λhg2 h=>wZ rg<|fR bk fV dQ (enc:=AV.int .u32) (z':=0) cM (kk:=1) O O O hg2 (λg1=>asZ (.sl 1 rg 17 g1 0<|Int.toNat<|((a.length:Int)+(b.length:Int))+1) O (nZ<|qZ<|ah<|mvZ (ak a) O<|ac<|aK bk O<|mvZ (iZ 0) O<|nZ<|bZ<|lpZ h (λy=>a_ [(1,ak b),(5,.sl 1 rg 17 g1 0 y.2.length),(18,ak a),(19,iZ (a.length:Int)),(20,iZ y.1)]) (λy=>stL S rg [(17,.arr 1 (List.map (AV.int .u32) y.2),g1)]) (canon (fZ<|fc (VW.slen lzZ)<|fZ<|fZ<|fZ<|fn)<|sc O<|sn) (λy _ h=>?_))))))
 obtain⟨x,out⟩:=y
 refine ah<|ac<|bi O O<|nZ<|qZ<|cZ h O (λhb h=>?_) (λhb h=>?_)
 ·refine kZ<|qZ<|bZ<|ah<|mvZ (iZ x) O<|tkZ h (λhg3 h=>ac<|a9 bk bo dZ (λ_=>O) O O hg3<|ac<|aP bo dw O O (v:=.int .u32 (at' a x)) O<|asZ (iZ x) O<|asZ (.int .u32<|at' a x) O<|aU<|asZ (.int .u64 0) O<|aU<|mvZ (ak b) O<|ac<|aK bk O<|tkZ h (λhg4 h=>ac<|aC O O hg4<|mvZ (iZ 0) O<|nZ<|bZ<|lpZ h (λy=>a_ [(1,ak b),(5,.sl 1 rg 17 g1 0 y.2.2.length),(6,iZ x),(7,.int .u32 (at' a x)),(8,.int .u64 y.1),(18,ak a),(19,iZ (a.length:Int)),(20,iZ x),(27,iZ ((b.length:Int)+1)),(28,iZ y.2.1)]) (λy=>stL S rg [(17,.arr 1 (List.map (AV.int .u32) y.2.2),g1)]) (canon (aN<|aN<|fZ<|fZ<|fn)<|sc O<|sn) (λy _ h=>?_)))
  obtain⟨carry,x1,out1⟩:=y
  refine ah<|ac<|bi O O<|nZ<|qZ<|cZ h O (λhb1 h=>?_) (λhb1 h=>?_)
  ·refine kZ<|qZ<|bZ<|ah<|mvZ (iZ x1) O<|asZ (iZ x1) O<|nZ<|qZ ?_
   obtain⟨r,hc,h⟩:=h
   refine tkZ h (λhg5 h=>tkZ h (λhi h=>Vc.drawn' bG rg (gk [(4,pc (.int .u64 r))]) krZ<|dP O O<|aD (v:=.int .u32 (at' a x)) O<|dP O O<|bP cI cP O<|dP O O<|aD (v:=ak b) O<|dP O O<|aD (v:=iZ x1) O<|dC (vs:=[ak b,iZ x1]) O (vZ<|vZ<|vn) (λ_=>cn hc (λ_ hr=>⟨by rw[hr],rfl⟩)) O<|dP O O<|zF O O<|dP O O<|aD (v:=.sl 1 rg 17 g1 0 out1.length) O<|dP O O<|aD (v:=iZ x) O<|dP O O<|aD (v:=iZ x1) O<|dP O O<|aC O O hg5<|dP O O<|bh bk bo dZ O O hi<|dL (E:=([(rg,17)],[])) O O zSm (cfn) (bY (aZ 17 O) bo dw O (bE hi lzZ) O (v:=.int .u32 (at' out1<|x+x1)) O (dP O O<|bP cI cP O<|dP O O<|nG O O<|dP O O<|aD (v:=.int .u64 carry) O<|dP O O<|nG O O<|dP O O<|a8 (v:=.int .u64 (IntKind.wrap .u64<|(IntKind.wrap .u64<|(IntKind.wrap .u64<|(IntKind.wrap .u64<|at' a x)*r)+(IntKind.wrap .u64<|at' out1<|x+x1))+carry)) O (dN<|ah<|mvZ (.sl 1 rg 17 g1 0 out1.length) O<|mvZ (iZ x) O<|mvZ (iZ x1) O<|tkZ h (λhg6 h=>ac<|aC O O hg6<|mvZ (.int .u64<|IntKind.wrap .u64<|(IntKind.wrap .u64<|(IntKind.wrap .u64<|(IntKind.wrap .u64<|at' a x)*r)+(IntKind.wrap .u64<|at' out1<|x+x1))+carry) O (ac<|bP cP cI O<|tkZ h (λhi1 h=>ac<|bh bk bo dZ O O hi1 ?_))))))))
   exact ac<|bM (aZ 17 O) bo dZ (x':=(IntKind.wrap .u32<|IntKind.wrap .u64<|(IntKind.wrap .u64<|(IntKind.wrap .u64<|(IntKind.wrap .u64<|at' a x)*r)+(IntKind.wrap .u64<|at' out1<|x+x1))+carry)) (λ_=>O) O O (bE hi1 lzZ) O O aQ<|nZ<|rZ<|mvZ (.int .u64<|IntKind.wrap .u64<|(IntKind.wrap .u64<|(IntKind.wrap .u64<|(IntKind.wrap .u64<|at' a x)*r)+(IntKind.wrap .u64<|at' out1<|x+x1))+carry) O (ac<|je O O dZ<|stZ h (λcarry1 hs h=>wZ rg<|a8 (v:=.int .u64 carry1) (by subst hs;rfl)<|nZ<|rZ<|tkZ h (λhg7 h=>ac<|aC O O hg7<|mvZ (iZ<|x1+1) O<|nZ<|⟨(carry1,(x1+1),(bu out1 (x+x1)<|IntKind.wrap .u32<|IntKind.wrap .u64<|(IntKind.wrap .u64<|(IntKind.wrap .u64<|(IntKind.wrap .u64<|at' a x)*r)+(IntKind.wrap .u64<|at' out1<|x+x1))+carry)),(canon (fZ<|fc (VW.slen lzZ)<|aN<|aN<|fn)<|sc O<|sn),h⟩)))
  exact xsZ<|rZ<|tkZ h (λhg8 h=>ac<|aC O O hg8<|mvZ (iZ<|x+1) O<|nZ<|⟨((x+1),out1),(canon (aN<|fZ<|fn)<|sc O<|sn),h⟩)
 exact xsZ<|ah<|mvZ (.sl 1 rg 17 g1 0 out.length) O<|eS (bt (k:=17) (xs:=List.map (AV.int .u32) out) O (es:=[(58,ak out)]) (fc (bg O)<|fn) (m:=[])<|sn)<|ac<|clZ O<|c5 h λr1 h=>asZ (ak r1) O<|aE<|gv1 hrg<|hQ _ h
theorem nb {a:List Int} {b:List Int} {Q:Int->Prop} (h:jc a b Q) (hQ:∀r1,Q r1->R (iZ r1) S) :
  Ctr prog 116 [ak a,ak b] S R:=by
 refine aG func116 rfl ntmps116 results116 krZ (λrg hrg=>?_)
 refine ah<|asZ (iZ 0) O<|nZ<|qZ<|ah<|mvZ (ak a) O<|ac<|aK bk O<|mvZ (ak b) O<|ac<|aK bk O<|ac<|zG O O<|tkZ h (λhg h=>ac<|bL O O hg<|stZ h (λi hs h=>wZ rg<|a8 (v:=iZ i) (by subst hs;rfl)<|nZ<|bZ<|lpZ h (λy=>a_ [(0,ak a),(1,ak b),(5,iZ y)]) (λy=>stL S rg []) (canon (fZ<|fZ<|fZ<|fn)<|sn) (λi1 _ h=>qZ<|ah<|mvZ (iZ i1) O<|ac<|fo O O<|nZ<|cZ h O (λhb h=>?_) (λhb h=>?_))))
 ·refine kZ<|qZ<|bZ<|qZ<|ah<|mvZ (ak a) O<|mvZ (iZ i1) O<|ac<|clZ O<|cn h λr h=>mvZ (ak b) O<|mvZ (iZ i1) O<|ac<|clZ O<|cn h λr1 h=>ac<|bi O O<|nZ<|cZ h O (λhb1 h=>?_) (λhb1 h=>?_)
  ·exact ah<|asZ (iZ<|-1) O<|aE<|gv1 hrg<|hQ _ h
  refine kZ<|ah<|mvZ (ak a) O<|mvZ (iZ i1) O<|ac<|clZ O<|cn h λr2 h=>mvZ (ak b) O<|mvZ (iZ i1) O<|ac<|clZ O<|cn h λr3 h=>ac<|cY O O<|nZ<|cZ h O (λhb2 h=>?_) (λhb2 h=>?_)
  ·exact ah<|asZ (iZ 1) O<|aE<|gv1 hrg<|hQ _ h
  exact kZ<|rZ<|mvZ (iZ i1) O<|tkZ h (λhg1 h=>ac<|bL O O hg1<|asZ (iZ<|i1-1) O<|nZ<|⟨(i1-1),(canon (fZ<|fZ<|fZ<|fn)<|sn),h⟩)
 exact xsZ<|ah<|asZ (iZ 0) O<|aE<|gv1 hrg<|hQ _ h
theorem m_ {a:List Int} {b:List Int} {Q:List Int->Int->Prop} (h:kD a b Q) (hQ:∀r1 r2,Q r1 r2->R (.tuple [ak r1,iZ r2]) S) :
  Ctr prog 117 [ak a,ak b] S R:=by
 refine aG func117 rfl ntmps117 results117 krZ (λrg hrg=>?_)
 refine ah<|asZ .nil O<|asZ (iZ 0) O<|nZ<|qZ<|ah<|mvZ (ak a) O<|mvZ (ak b) O<|ac<|clZ O<|nb h λr h=>ac<|bi O O<|nZ<|cZ h O (λhb h=>?_) (λhb h=>?_)
 ·exact ah<|asZ .nil O<|asZ (iZ 3) O<|aE<|aB (v:=.nil) O<|aB (v:=iZ 3) O<|aJ<|aO hrg (VW.tupL<|vl' (VW.nilL)<|vZ<|vn)<|hQ _ _ h
 refine kZ<|ah<|asZ .nil O<|aU<|asZ (.int .u64 0) O<|nZ<|qZ<|ah<|mvZ (ak a) O<|ac<|aK bk O<|mvZ (iZ 0) O<|nZ<|bZ<|Vc.mat 6 32 1 O dZ (λg1=>lgZ h g1 (λy=>a_ [(0,ak a),(1,ak b),(6,.sl 1 rg 32 y.2 0 y.1.2.2.length),(7,.int .u64 y.1.1),(15,iZ (a.length:Int)),(16,iZ y.1.2.1)]) (λy=>stL S rg [(32,.arr 1 (List.map (AV.int .u32) y.1.2.2),y.2)]) (canon (fZ<|fZ<|fc (VW.slen lzZ)<|fZ<|fZ<|fZ<|fn)<|sc O<|sn) (λy _ h=>?_))
 obtain⟨⟨borrow,x,out⟩,g2⟩:=y
 refine ah<|ac<|bi O O<|nZ<|qZ<|cZ h O (λhb1 h=>?_) (λhb1 h=>?_)
 ·exact kZ<|qZ<|bZ<|ah<|mvZ (iZ x) O<|asZ (iZ x) O<|aU<|mvZ (ak a) O<|mvZ (iZ x) O<|ac<|clZ O<|cn h λr1 h=>mvZ (ak b) O<|mvZ (iZ x) O<|ac<|clZ O<|cn h λr2 h=>ac<|qj O O<|mvZ (.int .u64 borrow) O<|ac<|qj O O<|stZ h (λs hs h=>wZ rg<|a8 (v:=.int .u64 s) (by subst hs;rfl)<|aU<|mvZ (.sl 1 rg 32 g2 0 out.length) O<|mvZ (.int .u64 s) O<|ac<|bP cP cI O<|wZ rg<|bq bk dQ cM (es:=[.int .u32 (IntKind.wrap .u32 s)]) O (kk:=1) O O O O O O (λg3=>tkZ h (λhg h=>wZ rg<|cF bk fV dQ cM (es:=out) (xs:=[(IntKind.wrap .u32 s)]) (enc:=AV.int .u32) (aZ 32 O) lzZ (bI (aZ 31 O) lzZ) (kk:=1) O O (λ_=>O) (λ_=>O) hg O (λ_=>aQ) (λg4=>asZ (.sl 1 rg 32 g4 0<|(out++[(IntKind.wrap .u32 s)]).length) O<|nZ<|rZ<|mvZ (.int .u64 s) O<|ac<|je O O dZ<|asZ (.int .u64<|s / 2^(Int.toNat 63)) O<|nZ<|rZ<|tkZ h (λhg1 h=>ac<|aC O O hg1<|mvZ (iZ<|x+1) O<|nZ<|⟨(((s / 2^(Int.toNat 63)),(x+1),(out++[(IntKind.wrap .u32 s)])),g4),(canon (aN<|fZ<|fZ<|fn)<|sc O<|sn),h⟩)))))
 exact xsZ<|ah<|mvZ (.sl 1 rg 32 g2 0 out.length) O<|eS (bt (k:=32) (xs:=List.map (AV.int .u32) out) O (es:=[(36,ak out)]) (fc (bg O)<|fn) (m:=[])<|sn)<|ac<|clZ O<|c5 h λr3 h=>asZ (ak r3) O<|asZ (iZ 0) O<|aE<|aB (v:=ak r3) O<|aB (v:=iZ 0) O<|aJ<|aO hrg (VW.tupL<|vZ<|vZ<|vn)<|hQ _ _ h
theorem rj {a:List Int} {s:Int} {Q:List Int->Prop} (h:n_ a s Q) (hQ:∀r1,Q r1->R (ak r1) S) :
  Ctr prog 146 [ak a,iZ s] S R:=by
 refine aG func146 rfl ntmps146 results146 krZ (λrg hrg=>?_)
 refine ah<|asZ .nil O<|aU<|asZ .nil O<|aU<|asZ (.int .u64 0) O<|nZ<|qZ<|ah<|mvZ (ak a) O<|ac<|aK bk O<|mvZ (iZ 0) O<|nZ<|bZ<|Vc.mat 5 25 1 O dZ (λg1=>lgZ h g1 (λy=>a_ [(1,iZ s),(5,.sl 1 rg 25 y.2 0 y.1.2.2.length),(6,.int .u64 y.1.1),(9,ak a),(10,iZ (a.length:Int)),(11,iZ y.1.2.1)]) (λy=>stL S rg [(25,.arr 1 (List.map (AV.int .u32) y.1.2.2),y.2)]) (canon (fZ<|fc (VW.slen lzZ)<|aN<|fn)<|sc O<|sn) (λy _ h=>?_))
 obtain⟨⟨carry,x,out⟩,g2⟩:=y
 refine ah<|ac<|bi O O<|nZ<|qZ<|cZ h O (λhb h=>?_) (λhb h=>?_)
 ·exact kZ<|qZ<|bZ<|ah<|tkZ h (λhg h=>ac<|a9 bk bo dZ (λ_=>O) O O hg<|ac<|aP bo dw O O (v:=.int .u32 (at' a x)) O<|asZ (.int .u32<|at' a x) O<|aU<|mvZ (.int .u64 carry) O<|mvZ (.int .u32<|at' a x) O<|ac<|bP cI cP O<|mvZ (iZ s) O<|tkZ h (λhg1 h=>ac<|pe O O hg1<|ac<|w5 O O<|stZ h (λcarry1 hs h=>wZ rg<|a8 (v:=.int .u64 carry1) (by subst hs;rfl)<|aU<|mvZ (.sl 1 rg 25 g2 0 out.length) O<|mvZ (.int .u64 carry1) O<|ac<|bP cP cI O<|wZ rg<|bq bk dQ cM (es:=[.int .u32 (IntKind.wrap .u32 carry1)]) O (kk:=1) O O O O O O (λg3=>tkZ h (λhg2 h=>wZ rg<|cF bk fV dQ cM (es:=out) (xs:=[(IntKind.wrap .u32 carry1)]) (enc:=AV.int .u32) (aZ 25 O) lzZ (bI (aZ 24 O) lzZ) (kk:=1) O O (λ_=>O) (λ_=>O) hg2 O (λ_=>aQ) (λg4=>asZ (.sl 1 rg 25 g4 0<|(out++[(IntKind.wrap .u32 carry1)]).length) O<|nZ<|rZ<|mvZ (.int .u64 carry1) O<|ac<|je O O dZ<|asZ (.int .u64<|carry1 / 2^(Int.toNat 32)) O<|nZ<|rZ<|tkZ h (λhg3 h=>ac<|aC O O hg3<|mvZ (iZ<|x+1) O<|nZ<|⟨(((carry1 / 2^(Int.toNat 32)),(x+1),(out++[(IntKind.wrap .u32 carry1)])),g4),(canon (aN<|fZ<|fZ<|fn)<|sc O<|sn),h⟩)))))))
 exact xsZ<|ah<|mvZ (.sl 1 rg 25 g2 0 out.length) O<|mvZ (.int .u64 carry) O<|ac<|bP cP cI O<|wZ rg<|bq bk dQ cM (es:=[.int .u32 (IntKind.wrap .u32 carry)]) O (kk:=1) O O O O O O (λg5=>tkZ h (λhg4 h=>wZ rg<|cF bk fV dQ cM (es:=out) (xs:=[(IntKind.wrap .u32 carry)]) (enc:=AV.int .u32) (aZ 25 O) lzZ (bI (aZ 32 O) lzZ) (kk:=1) O O (λ_=>O) (λ_=>O) hg4 O (λ_=>aQ) (λg6=>eS (bt (k:=25) (xs:=List.map (AV.int .u32) (out++[(IntKind.wrap .u32 carry)])) O (es:=[(33,ak (out++[(IntKind.wrap .u32 carry)]))]) (fc (bg O)<|fn) (m:=[]) (sn)) (ac<|clZ O<|c5 h λr h=>asZ (ak r) O<|aE<|gv1 hrg<|hQ _ h))))
theorem uX {a:List Int} {s:Int} {Q:List Int->Prop} (h:ly a s Q) (hQ:∀r1,Q r1->R (ak r1) S) :
  Ctr prog 147 [ak a,iZ s] S R:=by
 refine aG func147 rfl ntmps147 results147 krZ (λrg hrg=>?_)
 refine ah<|asZ .nil O<|aU<|asZ .nil O<|nZ<|qZ<|ah<|mvZ (ak a) O<|ac<|aK bk O<|mvZ (iZ 0) O<|nZ<|bZ<|Vc.mat 5 26 1 O dZ (λg1=>lgZ h g1 (λy=>a_ [(0,ak a),(1,iZ s),(5,.sl 1 rg 26 y.2 0 y.1.2.length),(8,iZ (a.length:Int)),(9,iZ y.1.1)]) (λy=>stL S rg [(26,.arr 1 (List.map (AV.int .u32) y.1.2),y.2)]) (canon (fZ<|fZ<|fc (VW.slen lzZ)<|fZ<|fZ<|fn)<|sc O<|sn) (λy _ h=>?_))
 obtain⟨⟨x,out⟩,g2⟩:=y
 refine ah<|ac<|bi O O<|nZ<|qZ<|cZ h O (λhb h=>?_) (λhb h=>?_)
 ·exact kZ<|qZ<|bZ<|ah<|mvZ (iZ x) O<|asZ (iZ x) O<|nZ<|rZ<|mvZ (.sl 1 rg 26 g2 0 out.length) O<|mvZ (ak a) O<|mvZ (iZ x) O<|ac<|clZ O<|cn h λr h=>mvZ (ak a) O<|mvZ (iZ x) O<|tkZ h (λhg h=>ac<|aC O O hg<|ac<|clZ O<|cn h λr1 h=>ac<|pe O O dZ<|ac<|w5 O O<|mvZ (iZ s) O<|tkZ h (λhg1 h=>ac<|je O O hg1<|ac<|bP cP cI O<|wZ rg<|bq bk dQ cM (es:=[.int .u32 (IntKind.wrap .u32<|(bits .or .u64 r<|IntKind.wrap .u64<|r1*2^(Int.toNat 32)) / 2^(Int.toNat s))]) O (kk:=1) O O O O O O (λg3=>tkZ h (λhg2 h=>wZ rg<|cF bk fV dQ cM (es:=out) (xs:=[(IntKind.wrap .u32<|(bits .or .u64 r<|IntKind.wrap .u64<|r1*2^(Int.toNat 32)) / 2^(Int.toNat s))]) (enc:=AV.int .u32) (aZ 26 O) lzZ (bI (aZ 25 O) lzZ) (kk:=1) O O (λ_=>O) (λ_=>O) hg2 O (λ_=>aQ) (λg4=>asZ (.sl 1 rg 26 g4 0<|(out++[(IntKind.wrap .u32<|(bits .or .u64 r<|IntKind.wrap .u64<|r1*2^(Int.toNat 32)) / 2^(Int.toNat s))]).length) O (nZ<|rZ<|tkZ h (λhg3 h=>ac<|aC O O hg3<|mvZ (iZ<|x+1) O<|nZ<|⟨(((x+1),(out++[(IntKind.wrap .u32<|(bits .or .u64 r<|IntKind.wrap .u64<|r1*2^(Int.toNat 32)) / 2^(Int.toNat s))])),g4),(canon (aN<|fZ<|fn)<|sc O<|sn),h⟩)))))))
 exact xsZ<|ah<|mvZ (.sl 1 rg 26 g2 0 out.length) O<|eS (bt (k:=26) (xs:=List.map (AV.int .u32) out) O (es:=[(28,ak out)]) (fc (bg O)<|fn) (m:=[])<|sn)<|ac<|clZ O<|c5 h λr2 h=>asZ (ak r2) O<|aE<|gv1 hrg<|hQ _ h
theorem na {a:List Int} {b:List Int} {Q:List Int->List Int->Int->Prop} (h:kE a b Q) (hQ:∀r1 r2 r3,Q r1 r2 r3->R (.tuple [ak r1,ak r2,iZ r3]) S) :
  Ctr prog 122 [ak a,ak b] S R:=by
 refine aG func122 rfl ntmps122 results122 krZ (λrg hrg=>?_)
 refine ah<|asZ .nil O<|asZ .nil O<|asZ (iZ 0) O<|aU<|mvZ (ak b) O<|ac<|clZ O<|c5 h λb1 h=>asZ (ak b1) O<|aU<|mvZ (ak b1) O<|ac<|aK bk O<|asZ (iZ (b1.length:Int)) O<|nZ<|qZ<|ah<|mvZ (iZ (b1.length:Int)) O<|ac<|bJ O O<|nZ<|cZ h O (λhb h=>?_) (λhb h=>?_)
 ·exact ah<|asZ .nil O<|asZ .nil O<|asZ (iZ 8) O<|aE<|aB (v:=.nil) O<|aB (v:=.nil) O<|aB (v:=iZ 8) O<|aJ<|aO hrg (VW.tupL<|vl' (VW.nilL)<|vl' (VW.nilL)<|vZ<|vn)<|hQ _ _ _ h
 refine kZ<|ah<|asZ (iZ 0) O<|nZ<|qZ<|bZ<|lpZ h (λy=>a_ [(0,ak a),(1,ak b1),(7,iZ (b1.length:Int)),(8,iZ y)]) (λy=>stL S rg []) (canon (aN<|fn)<|sn) (λs _ h=>qZ<|ah<|mvZ (ak b1) O<|mvZ (iZ (b1.length:Int)) O<|tkZ h (λhg h=>ac<|bL O O hg<|tkZ h (λhg1 h=>ac<|a9 bk bo dZ (λ_=>O) O O hg1<|ac<|aP bo dw O O (v:=.int .u32 (at' b1<|(b1.length:Int)-1)) O (mvZ (iZ s) O<|tkZ h (λhg2 h=>ac<|pe O O hg2<|ac<|Ea O O<|ac<|bJ O O<|nZ<|cZ h O (λhb1 h=>?_) (λhb1 h=>?_))))))
 ·exact kZ<|bZ<|rZ<|mvZ (iZ s) O<|tkZ h (λhg3 h=>ac<|aC O O hg3<|asZ (iZ<|s+1) O<|nZ<|⟨(s+1),(canon (aN<|fn)<|sn),h⟩)
 refine xsZ<|ah<|mvZ (ak a) O<|mvZ (iZ s) O<|ac<|clZ O<|rj h λa1 h=>mvZ (ak b1) O<|mvZ (iZ s) O<|ac<|clZ O<|rj h λb2 h=>asZ (ak a1) O<|asZ (ak b2) O<|nZ<|qZ<|tkZ h (λhg4 h=>tkZ h (λhg5 h=>tkZ h (λhg6 h=>tkZ h (λhg7 h=>tkZ h (λhg8 h=>Vc.drawn' bG rg (λ_=>gN) krZ<|dP O O<|aD (v:=ak a1) O<|dP O O<|aK bk O<|dL (E:=([],[(rg,39)])) O O zSm (cfn) (fR bk fV dQ (enc:=AV.int .u32) (z':=0) cM (kk:=1) O O O hg4 (λg1=>dL (E:=([],[(rg,40)])) O O zSm (cfa zAp<|cfn) (bq bk dQ cM (es:=[]) O (kk:=1) O O O O O O (λg2=>dP O O<|aD (v:=ak a1) O<|dP O O<|aD (v:=ak a1) O<|dP O O<|aK bk O<|dP O O<|aD (v:=iZ (b1.length:Int)) O<|dP O O<|bL O O hg5<|dP O O<|aC O O hg6<|dP O O<|zG O O<|dP O O<|jB bk bo dZ (λ_=>O) O (l:=(max 0<|((a1.length:Int)-(b1.length:Int))+1)) (h:=(a1.length:Int)) O O hg7 (dL (E:=([],[(rg,40)])) O O zSm (cfo krZ<|cfa zAp<|cfn) (cF bk fV dQ cM (es:=([]:List Int)) (xs:=(cg a1 (max 0<|((a1.length:Int)-(b1.length:Int))+1) (a1.length:Int))) (enc:=AV.int .u32) (aZ 40 O) lzZ (O) (kk:=1) O O (λ_=>O) (λ_=>O) hg8 O (λ_=>aQ) (λg3=>?_))))))))))))
 refine dP O O<|a8 (v:=.sl 1 rg 39 g1 0 (Int.toNat (a1.length:Int))) O (dP O O<|a8 (v:=.sl 1 rg 40 g3 0 ((([]:List Int)++(cg a1 (max 0<|((a1.length:Int)-(b1.length:Int))+1) (a1.length:Int))).length)) O (dN<|qZ<|ah<|mvZ (ak a1) O<|ac<|aK bk O<|mvZ (iZ (b1.length:Int)) O<|tkZ h (λhg9 h=>ac<|bL O O hg9<|asZ (iZ<|(a1.length:Int)-(b1.length:Int)) O<|nZ<|bZ<|EV (bt (k:=40) (xs:=List.map (AV.int .u32) (([]:List Int)++(cg a1 (max 0<|((a1.length:Int)-(b1.length:Int))+1) (a1.length:Int)))) O (es:=[(0,ak a1),(1,ak b2),(7,iZ (b1.length:Int)),(8,iZ s),(9,.sl 1 rg 39 g1 0 (Int.toNat (a1.length:Int))),(10,ak (([]:List Int)++(cg a1 (max 0<|((a1.length:Int)-(b1.length:Int))+1) (a1.length:Int)))),(11,iZ ((a1.length:Int)-(b1.length:Int)))]) (aN<|fc (ft O)<|fc (bg O)<|fZ<|fn) (m:=[(39,.arr 1 (List.map (AV.int .u32)<|bT (a1.length:Int) 0),g1)]) (sc O<|sn)) (lpZ h (λy=>a_ [(0,ak a1),(1,ak b2),(7,iZ (b1.length:Int)),(8,iZ s),(9,.sl 1 rg 39 g1 0 y.2.2.length),(10,ak y.1),(11,iZ y.2.1)]) (λy=>stL S rg [(39,.arr 1 (List.map (AV.int .u32) y.2.2),g1)]) (canon (aN<|fc (VW.slen lzZ)<|fZ<|fZ<|fn)<|sc O<|sn) (λy _ h=>?_)))))
 obtain⟨r,i,q⟩:=y
 refine qZ<|ah<|mvZ (iZ i) O<|ac<|fo O O<|nZ<|cZ h O (λhb2 h=>?_) (λhb2 h=>?_)
 ·refine kZ<|qZ<|bZ<|ah<|mvZ (ak a1) O<|mvZ (iZ i) O<|tkZ h (λhg10 h=>ac<|a9 bk bo dZ (λ_=>O) O O hg10<|ac<|aP bo dw O O (v:=.int .u32 (at' a1 i)) O<|wZ rg<|bq bk dQ cM (es:=[.int .u32 (at' a1 i)]) O (kk:=1) O O O O O O (λg4=>mvZ (ak r) O<|tkZ h (λhg11 h=>wZ rg<|cF bk fV dQ cM (es:=[(at' a1 i)]) (xs:=r) (enc:=AV.int .u32) (aZ 62 O) lzZ (O) (kk:=1) O O (λ_=>O) (λ_=>O) hg11 O (λ_=>aQ) (λg5=>eS (bt (k:=62) (xs:=List.map (AV.int .u32) ([(at' a1 i)]++r)) O (es:=[(0,ak a1),(1,ak b2),(7,iZ (b1.length:Int)),(8,iZ s),(9,.sl 1 rg 39 g1 0 q.length),(11,iZ i),(64,ak ([(at' a1 i)]++r))]) (aN<|fc (ft O)<|fZ<|fc (bg O)<|fn) (m:=[(39,.arr 1 (List.map (AV.int .u32) q),g1)]) (sc O<|sn)) (ac<|clZ O<|c5 h λr1 h=>asZ (ak r1) O<|aU<|mvZ (ak r1) O<|mvZ (iZ (b1.length:Int)) O<|ac<|clZ O<|cn h λr2 h=>ac<|pe O O dZ<|mvZ (ak r1) O<|mvZ (iZ (b1.length:Int)) O<|tkZ h (λhg12 h=>ac<|bL O O hg12<|ac<|clZ O<|cn h λr3 h=>ac<|w5 O O<|mvZ (ak b2) O<|mvZ (iZ (b1.length:Int)) O<|tkZ h (λhg13 h=>ac<|bL O O hg13<|ac<|clZ O<|cn h λr4 h=>tkZ h (λhg14 h=>ac<|BL O O hg14<|ac<|Gx O O<|stZ h (λguess hs h=>?_)))))))))
  refine wZ rg<|a8 (v:=.int .u64 guess) (by subst hs;rfl)<|aU<|mvZ (ak b2) O<|mvZ (.int .u64 guess) O<|ac<|bP cP cI O<|wZ rg<|bq bk dQ cM (es:=[.int .u32 (IntKind.wrap .u32 guess)]) O (kk:=1) O O O O O O (λg6=>eS (bt (k:=84) (xs:=List.map (AV.int .u32) [(IntKind.wrap .u32 guess)]) O (es:=[(0,ak a1),(1,ak b2),(7,iZ (b1.length:Int)),(8,iZ s),(9,.sl 1 rg 39 g1 0 q.length),(10,ak r1),(11,iZ i),(12,.int .u64 guess),(81,ak b2),(84,ak [(IntKind.wrap .u32 guess)])]) (aN<|fc (ft O)<|aN<|fc (bg O)<|fn) (m:=[(39,.arr 1 (List.map (AV.int .u32) q),g1)]) (sc O<|sn)) (ac<|clZ O<|km h λp h=>asZ (ak p) O<|nZ<|qZ<|bZ<|lpZ h (λy=>a_ [(0,ak a1),(1,ak b2),(7,iZ (b1.length:Int)),(8,iZ s),(9,.sl 1 rg 39 g1 0 q.length),(10,ak r1),(11,iZ i),(12,.int .u64 y.1),(13,ak y.2)]) (λy=>stL S rg [(39,.arr 1 (List.map (AV.int .u32) q),g1)]) (canon (aN<|aN<|fZ<|fn)<|sc O<|sn) (λy _ h=>?_)))
  obtain⟨guess1,p1⟩:=y
  refine qZ<|ah<|mvZ (ak p1) O<|mvZ (ak r1) O<|ac<|clZ O<|nb h λr5 h=>ac<|cY O O<|nZ<|cZ h O (λhb3 h=>?_) (λhb3 h=>?_)
  ·exact kZ<|bZ<|ah<|mvZ (.int .u64 guess1) O<|ac<|qj O O<|asZ (.int .u64<|IntKind.wrap .u64<|guess1-1) O<|nZ<|rZ<|mvZ (ak p1) O<|mvZ (ak b2) O<|ac<|clZ O<|m_ h λr6 r7 h=>mvZ (.tuple [ak r6,iZ r7]) O<|ac<|au (v:=ak r6) O O O<|ac<|au (v:=iZ r7) O O O<|asZ (ak r6) O<|nZ<|⟨((IntKind.wrap .u64<|guess1-1),r6),(canon (aN<|aN<|fZ<|fn)<|sc O<|sn),h⟩
  exact xsZ<|ah<|mvZ (ak r1) O<|mvZ (ak p1) O<|ac<|clZ O<|m_ h λr8 r9 h=>mvZ (.tuple [ak r8,iZ r9]) O<|ac<|au (v:=ak r8) O O O<|ac<|au (v:=iZ r9) O O O<|asZ (ak r8) O<|nZ<|rZ<|mvZ (.sl 1 rg 39 g1 0 q.length) O<|mvZ (iZ i) O<|mvZ (.int .u64 guess1) O<|ac<|bP cP cI O<|tkZ h (λhi h=>ac<|bh bk bo dZ O O hi<|ac<|bM (aZ 39 O) bo dZ (x':=(IntKind.wrap .u32 guess1)) (λ_=>O) O O (bE hi lzZ) O O aQ<|nZ<|rZ<|mvZ (iZ i) O<|tkZ h (λhg15 h=>ac<|bL O O hg15<|asZ (iZ<|i-1) O<|nZ<|⟨(r8,(i-1),(bu q i<|IntKind.wrap .u32 guess1)),(canon (aN<|fc (VW.slen lzZ)<|fZ<|fZ<|fn)<|sc O<|sn),h⟩))
 exact xsZ<|ah<|mvZ (.sl 1 rg 39 g1 0 q.length) O<|eS (bt (k:=39) (xs:=List.map (AV.int .u32) q) O (es:=[(8,iZ s),(10,ak r),(109,ak q)]) (fZ<|fZ<|fc (bg O)<|fn) (m:=[]) (sn)) (ac<|clZ O<|c5 h λr10 h=>mvZ (ak r) O<|mvZ (iZ s) O<|ac<|clZ O<|uX h λr11 h=>asZ (ak r10) O<|asZ (ak r11) O<|asZ (iZ 0) O<|aE<|aB (v:=ak r10) O<|aB (v:=ak r11) O<|aB (v:=iZ 0) O<|aJ<|aO hrg (VW.tupL<|vZ<|vZ<|vZ<|vn)<|hQ _ _ _ h)
theorem qh {a:List Int} {b:List Int} {Q:List Int->Prop} (h:mJ a b Q) (hQ:∀r1,Q r1->R (ak r1) S) :
  Ctr prog 89 [ak a,ak b] S R:=by
 refine aG func89 rfl ntmps89 results89 krZ (λrg hrg=>?_)
 refine ah<|asZ .nil O<|aU<|mvZ (ak a) O<|ac<|clZ O<|c5 h λa1 h=>mvZ (ak b) O<|ac<|clZ O<|c5 h λb1 h=>asZ (ak a1) O<|asZ (ak b1) O<|nZ<|qZ<|bZ<|lpZ h (λy=>a_ [(0,ak y.1),(1,ak y.2)]) (λy=>stL S rg []) (canon (fZ<|fZ<|fn)<|sn) (λy _ h=>?_)
 obtain⟨a2,b2⟩:=y
 refine qZ<|ah<|mvZ (ak b2) O<|ac<|aK bk O<|ac<|cY O O<|nZ<|cZ h O (λhb h=>?_) (λhb h=>?_)
 ·exact kZ<|bZ<|ah<|mvZ (ak a2) O<|mvZ (ak b2) O<|ac<|clZ O<|na h λr r1 r2 h=>mvZ (.tuple [ak r,ak r1,iZ r2]) O<|ac<|au (v:=ak r) O O O<|ac<|au (v:=ak r1) O O O<|ac<|au (v:=iZ r2) O O O<|asZ (ak r) O<|asZ (ak r1) O<|asZ (iZ r2) O<|nZ<|rZ<|mvZ (ak b2) O<|mvZ (ak r1) O<|asZ (ak b2) O<|asZ (ak r1) O<|nZ<|⟨(b2,r1),(canon (fZ<|fZ<|fn)<|sn),h⟩
 exact xsZ<|ah<|mvZ (ak a2) O<|asZ (ak a2) O<|aE<|gv1 hrg<|hQ _ h
theorem wW {a:List Int} {b:List Int} {Q:List Int->Prop} (h:mK a b Q) (hQ:∀r1,Q r1->R (ak r1) S) :
  Ctr prog 115 [ak a,ak b] S R:=by
 refine aG func115 rfl ntmps115 results115 krZ (λrg hrg=>?_)
 refine ah<|asZ .nil O<|aU<|asZ .nil O<|aU<|asZ (.int .u64 0) O<|nZ<|qZ<|ah<|mvZ (ak a) O<|ac<|aK bk O<|mvZ (ak b) O<|ac<|aK bk O<|ac<|zG O O<|tkZ h (λhg h=>ac<|aC O O hg<|mvZ (iZ 0) O<|nZ<|bZ<|Vc.mat 5 31 1 O dZ (λg1=>lgZ h g1 (λy=>a_ [(0,ak a),(1,ak b),(5,.sl 1 rg 31 y.2 0 y.1.2.2.length),(6,.int .u64 y.1.1),(14,iZ ((max (a.length:Int) (b.length:Int))+1)),(15,iZ y.1.2.1)]) (λy=>stL S rg [(31,.arr 1 (List.map (AV.int .u32) y.1.2.2),y.2)]) (canon (fZ<|fZ<|fc (VW.slen lzZ)<|fZ<|fZ<|fZ<|fn)<|sc O<|sn) (λy _ h=>?_)))
 obtain⟨⟨carry,x,out⟩,g2⟩:=y
 refine ah<|ac<|bi O O<|nZ<|qZ<|cZ h O (λhb h=>?_) (λhb h=>?_)
 ·exact kZ<|qZ<|bZ<|ah<|mvZ (iZ x) O<|asZ (iZ x) O<|aU<|mvZ (ak a) O<|mvZ (iZ x) O<|ac<|clZ O<|cn h λr h=>mvZ (ak b) O<|mvZ (iZ x) O<|ac<|clZ O<|cn h λr1 h=>ac<|nG O O<|mvZ (.int .u64 carry) O<|ac<|nG O O<|stZ h (λs hs h=>wZ rg<|a8 (v:=.int .u64 s) (by subst hs;rfl)<|aU<|mvZ (.sl 1 rg 31 g2 0 out.length) O<|mvZ (.int .u64 s) O<|ac<|bP cP cI O<|wZ rg<|bq bk dQ cM (es:=[.int .u32 (IntKind.wrap .u32 s)]) O (kk:=1) O O O O O O (λg3=>tkZ h (λhg1 h=>wZ rg<|cF bk fV dQ cM (es:=out) (xs:=[(IntKind.wrap .u32 s)]) (enc:=AV.int .u32) (aZ 31 O) lzZ (bI (aZ 30 O) lzZ) (kk:=1) O O (λ_=>O) (λ_=>O) hg1 O (λ_=>aQ) (λg4=>asZ (.sl 1 rg 31 g4 0<|(out++[(IntKind.wrap .u32 s)]).length) O<|nZ<|rZ<|mvZ (.int .u64 s) O<|ac<|je O O dZ<|asZ (.int .u64<|s / 2^(Int.toNat 32)) O<|nZ<|rZ<|tkZ h (λhg2 h=>ac<|aC O O hg2<|mvZ (iZ<|x+1) O<|nZ<|⟨(((s / 2^(Int.toNat 32)),(x+1),(out++[(IntKind.wrap .u32 s)])),g4),(canon (aN<|fZ<|fZ<|fn)<|sc O<|sn),h⟩)))))
 exact xsZ<|ah<|mvZ (.sl 1 rg 31 g2 0 out.length) O<|eS (bt (k:=31) (xs:=List.map (AV.int .u32) out) O (es:=[(35,ak out)]) (fc (bg O)<|fn) (m:=[])<|sn)<|ac<|clZ O<|c5 h λr2 h=>asZ (ak r2) O<|aE<|gv1 hrg<|hQ _ h
end Go.Proofs.YtcmagbhiioheeaaGreat
namespace Go.Proofs.YtcmagbhiioheeaaGreat
open Go.Gg Tryz
set_option maxRecDepth 100000
variable {S:St} {R:AV->St->Prop}
theorem jZ {Q:List Int->Prop} (h:jw Q) (hQ:∀r1,Q r1->R (ak r1) S) :
  Ctr prog 59 [] S R:=by
 refine aG func59 rfl ntmps59 results59 krZ (λrg hrg=>?_)
 exact ah<|asZ .nil O<|aU<|wZ rg<|bq bk dQ cM (es:=[.int .u32 1]) O (kk:=1) O O O O O O (λg1=>asZ (.sl 1 rg 1 g1 0<|[1].length) O<|aE<|aB (v:=.sl 1 rg 1 g1 0 ([1].length)) O<|aJ<|br (k:=1) (xs:=List.map (AV.int .u32) [1]) O (v':=ak [1]) (bg O)<|goZ hrg<|hQ _ h)
theorem l5 {a:List Int} {Q:Bool->Prop} (h:im a Q) (hQ:∀r1,Q r1->R (AV.bool r1) S) :
  Ctr prog 90 [ak a] S R:=by
 refine aG func90 rfl ntmps90 results90 krZ (λrg hrg=>?_)
 refine ah<|asZ (.bool false) O<|aU<|mvZ (ak a) O<|ac<|aK bk O<|ac<|cY O O<|mvZ (.bool<|decide<|0<(a.length:Int)) O<|gtZ h O O (λhb h=>?_) (λhb h=>?_)
 ·exact mvZ (ak a) O<|gTZ O O hb<|mvZ (ak a) O<|gTZ O O hb<|ac<|aK bk O<|gTZ O O hb<|tkZ h (λhg h=>ac<|bL O O hg<|gTZ O O hb<|tkZ h (λhg1 h=>ac<|a9 bk bo dZ (λ_=>O) O O hg1<|gTZ O O hb<|ac<|aP bo dw O O (v:=.int .u32 (at' a<|(a.length:Int)-1)) O (gTZ O O hb<|ac<|fA O O<|ac<|aS O hb (v:=.bool ((at' a<|(a.length:Int)-1) != 0)) O (asZ (.bool<|(at' a<|(a.length:Int)-1) != 0) O (aE<|gv1 hrg<|hQ _ h)))))
 exact gFZ O O hb O<|gFZ O O hb O<|gFZ O O hb O<|gFZ O O hb O<|gFZ O O hb O<|gFZ O O hb O<|ac<|aY O hb (v:=.bool false) O<|asZ (.bool false) O<|aE<|gv1 hrg<|hQ _ h
theorem l7 {a:GRat} {Q:Bool->Prop} (h:io a Q) (hQ:∀r1,Q r1->R (AV.bool r1) S) :
  Ctr prog 51 [aq a] S R:=by
 refine aG func51 rfl ntmps51 results51 krZ (λrg hrg=>?_)
 refine ah<|wZ rg<|bA (v:=aq a) O O (kk:=3) O dZ (λg1=>asZ (.bool false) O<|nZ<|qZ<|jgZ (γ:=Nat) h (λy=>a_ [(1,.ptr rg 1 y.2 0 0),(12,.bool y.1)]) (λy=>stL S rg [(1,.arr 3 [aq a],y.2)]) (λy h=>?_) (λ_ h=>?_))
 ·obtain⟨x,g2⟩:=y
  refine cZ h O (λhb h=>?_) (λhb h=>?_)
  ·exact ah<|ac<|aF pn O<|ac<|af (aZ 1 O) sz4 ag4 O O (v:=.bool a.Y) O<|ac<|fQ O<|asZ (.bool<|!a.Y) O<|aE<|gv1 hrg<|hQ _ h
  refine kZ<|ah<|ac<|aF iG O<|ac<|af (aZ 1 O) iJ jk O O (v:=ak a.J) O<|ac<|clZ O<|l5 h λr h=>mvZ (.bool r) O<|gtZ h O O (λhb1 h=>?_) (λhb1 h=>?_)
  ·refine ac<|aF jI O<|gTZ O O hb1<|ac<|af (aZ 1 O) iJ jk O O (v:=ak a.L) O<|gTZ O O hb1<|ac<|clZ O<|l5 h λr1 h=>ac<|aS O hb1 (v:=.bool r1) O<|mvZ (.bool r1) O<|gtZ h O O (λhb2 h=>?_) (λhb2 h=>?_)
   ·exact ac<|aF iG O<|gTZ O O hb2<|ac<|af (aZ 1 O) iJ jk O O (v:=ak a.J) O<|gTZ O O hb2<|ac<|aF jI O<|gTZ O O hb2<|ac<|af (aZ 1 O) iJ jk O O (v:=ak a.L) O<|gTZ O O hb2<|ac<|clZ O<|oF h λr2 h=>gTZ O O hb2<|ac<|clZ O<|jZ h λr3 h=>gTZ O O hb2<|ac<|clZ O<|gt h λr4 h=>gTZ O O hb2<|ac<|bJ O O<|ac<|aS O hb2 (v:=.bool (r4 == 0)) O<|asZ (.bool<|r4 == 0) O<|aE<|gv1 hrg<|hQ _ h
   exact gFZ O O hb2 O<|gFZ O O hb2 O<|gFZ O O hb2 O<|gFZ O O hb2 O<|gFZ O O hb2 O<|gFZ O O hb2 O<|gFZ O O hb2 O<|ac<|aY O hb2 (v:=.bool false) O<|asZ (.bool false) O<|aE<|gv1 hrg<|hQ _ h
  exact gFZ O O hb1 O<|gFZ O O hb1 O<|ac<|aY O hb1 (v:=.bool false) O<|mvZ (.bool false) O<|gFZ O O O O<|gFZ O O O O<|gFZ O O O O<|gFZ O O O O<|gFZ O O O O<|gFZ O O O O<|gFZ O O O O<|gFZ O O O O<|ac<|aY O O (v:=.bool false) O<|asZ (.bool false) O<|aE<|gv1 hrg<|hQ _ h
 refine rZ<|ac<|aF iG O<|ac<|af (aZ 1 O) iJ jk O O (v:=ak a.J) O<|ac<|aK bk O<|ac<|bJ O O<|mvZ (.bool<|(a.J.length:Int) == 0) O<|gtZ h O O (λhb3 h=>?_) (λhb3 h=>?_)
 ·exact ac<|aF jI O<|gTZ O O hb3<|ac<|af (aZ 1 O) iJ jk O O (v:=ak a.L) O<|gTZ O O hb3<|ac<|aK bk O<|gTZ O O hb3<|ac<|bJ O O<|ac<|aS O hb3 (v:=.bool ((a.L.length:Int) == 0)) O (nZ<|⟨(((a.L.length:Int) == 0),g1),(canon (fZ<|fZ<|fn)<|sc O<|sn),h⟩)
 exact gFZ O O hb3 O<|gFZ O O hb3 O<|gFZ O O hb3 O<|ac<|aY O hb3 (v:=.bool false) O<|nZ<|⟨(false,g1),(canon (fZ<|fZ<|fn)<|sc O<|sn),h⟩
theorem jx {a:GRat} {Q:Bool->Prop} (h:gn a Q) (hQ:∀r1,Q r1->R (AV.bool r1) S) :
  Ctr prog 26 [aq a] S R:=by
 refine aG func26 rfl ntmps26 results26 krZ (λrg hrg=>?_)
 refine ah<|wZ rg<|bA (v:=aq a) O O (kk:=3) O dZ (λg1=>asZ (.bool false) O<|aU<|ac<|ar (aZ 1 O) bb dZ bH O O (v:=aq a) O<|ac<|clZ O<|l7 h λr h=>mvZ (.bool r) O<|gtZ h O O (λhb h=>?_) (λhb h=>?_))
 ·refine ac<|aF pn O<|gTZ O O hb<|ac<|af (aZ 1 O) sz4 ag4 O O (v:=.bool a.Y) O<|gTZ O O hb<|ac<|fQ O<|ac<|aS O hb (v:=.bool (!a.Y)) O<|mvZ (.bool<|!a.Y) O<|gtZ h O O (λhb1 h=>?_) (λhb1 h=>?_)
  ·exact ac<|aF iG O<|gTZ O O hb1<|ac<|af (aZ 1 O) iJ jk O O (v:=ak a.J) O<|gTZ O O hb1<|ac<|aF jI O<|gTZ O O hb1<|ac<|af (aZ 1 O) iJ jk O O (v:=ak a.L) O<|gTZ O O hb1<|ac<|clZ O<|gt h λr1 h=>gTZ O O hb1<|ac<|rx O O<|ac<|aS O hb1 (v:=.bool (decide<|r1<=0)) O (asZ (.bool<|decide<|r1<=0) O<|aE<|gv1 hrg<|hQ _ h)
  exact gFZ O O hb1 O<|gFZ O O hb1 O<|gFZ O O hb1 O<|gFZ O O hb1 O<|gFZ O O hb1 O<|ac<|aY O hb1 (v:=.bool false) O<|asZ (.bool false) O<|aE<|gv1 hrg<|hQ _ h
 exact gFZ O O hb O<|gFZ O O hb O<|ac<|aY O hb (v:=.bool false) O<|mvZ (.bool false) O<|gFZ O O O O<|gFZ O O O O<|gFZ O O O O<|gFZ O O O O<|gFZ O O O O<|gFZ O O O O<|ac<|aY O O (v:=.bool false) O<|asZ (.bool false) O<|aE<|gv1 hrg<|hQ _ h
theorem dk {neg:Bool} {num:List Int} {den:List Int} {Q:GRat->Prop} (h:cS neg num den Q) (hQ:∀r1,Q r1->R (aq r1) S) :
  Ctr prog 57 [AV.bool neg,ak num,ak den] S R:=by
 refine aG func57 rfl ntmps57 results57 krZ (λrg hrg=>?_)
 refine ah<|wZ rg<|aT bN dH (kk:=3) O (λg1=>nZ<|qZ<|ah<|mvZ (ak num) O<|ac<|clZ O<|sR h λr h=>ac<|bJ O O<|nZ<|cZ h O (λhb h=>?_) (λhb h=>?_))
 ·exact ah<|ac<|bC oL bN mq lR bb (ps:=[]) O O (v:=.agg [.bool false,.nil,.nil]) O<|ac<|ay (aZ 6 O) bb dZ O (w:=.agg [.bool false,.nil,.nil]) O O O (v:=.agg [.bool false,.nil,.nil]) O aQ<|aE<|be (aZ 6 O) bb dZ bH O O (v:=.agg [.bool false,.nil,.nil]) O<|aJ<|aO hrg (VW.aggL<|vZ<|vl' (VW.nilL)<|vl' (VW.nilL)<|vn)<|hQ _ h
 exact kZ<|ah<|mvZ (ak num) O<|mvZ (ak den) O<|ac<|clZ O<|oF h λg2 h=>asZ (ak g2) O<|aU<|mvZ (ak num) O<|mvZ (ak g2) O<|ac<|clZ O<|kU h λr1 r2 r3 h=>mvZ (.tuple [ak r1,ak r2,aW 41 r3]) O<|ac<|au (v:=ak r1) O O O<|ac<|au (v:=ak r2) O O O<|ac<|au (v:=aW 41 r3) O O O<|asZ (ak r1) O<|asZ (ak r2) O<|asZ (aW 41 r3) O<|aU<|mvZ (ak den) O<|mvZ (ak g2) O<|ac<|clZ O<|kU h λr4 r5 r6 h=>mvZ (.tuple [ak r4,ak r5,aW 41 r6]) O<|ac<|au (v:=ak r4) O O O<|ac<|au (v:=ak r5) O O O<|ac<|au (v:=aW 41 r6) O O O<|asZ (ak r4) O<|asZ (ak r5) O<|asZ (aW 41 r6) O<|aU<|mvZ (.bool neg) O<|mvZ (ak r1) O<|mvZ (ak r4) O<|ac<|bC oL bN mq lR bb (ps:=[(0,.bool neg),(1,ak r1),(2,ak r4)]) O O (v:=.agg [.bool neg,ak r1,ak r4]) O (ac<|ay (aZ 6 O) bb dZ O (w:=.agg [.bool neg,ak r1,ak r4]) O O O (v:=.agg [.bool neg,ak r1,ak r4]) O aQ<|aE<|be (aZ 6 O) bb dZ bH O O (v:=.agg [.bool neg,ak r1,ak r4]) O<|aJ<|goZ hrg<|hQ _ h)
theorem da {a:GRat} {Q:Bool->List Int->List Int->Prop} (h:cV a Q) (hQ:∀r1 r2 r3,Q r1 r2 r3->R (.tuple [AV.bool r1,ak r2,ak r3]) S) :
  Ctr prog 60 [aq a] S R:=by
 refine aG func60 rfl ntmps60 results60 krZ (λrg hrg=>?_)
 refine ah<|wZ rg<|bA (v:=aq a) O O (kk:=3) O dZ (λg1=>asZ (.bool false) O<|asZ .nil O<|asZ .nil O<|nZ<|qZ<|jgZ (γ:=Nat) h (λy=>a_ [(1,.ptr rg 1 y.2 0 0),(13,.bool y.1)]) (λy=>stL S rg [(1,.arr 3 [aq a],y.2)]) (λy h=>?_) (λ_ h=>?_))
 ·obtain⟨x,g2⟩:=y
  refine cZ h O (λhb h=>?_) (λhb h=>?_)
  ·exact ah<|ac<|clZ O<|jZ h λr h=>asZ (.bool false) O<|asZ .nil O<|asZ (ak r) O<|aE<|aB (v:=.bool false) O<|aB (v:=.nil) O<|aB (v:=ak r) O<|aJ<|aO hrg (VW.tupL<|vZ<|vl' (VW.nilL)<|vZ<|vn)<|hQ _ _ _ h
  exact kZ<|qZ<|Vc.drawn' bG rg (λ_=>gN) krZ<|dP O O<|aF pn O<|dL (E:=([(rg,1)],[])) O O zSm (cfn) (af (aZ 1 O) sz4 ag4 O O (v:=.bool a.Y) O<|dP O O<|aF iG O<|dL (E:=([(rg,1)],[])) O O zSm (cfa zAp<|cfn) (af (aZ 1 O) iJ jk O O (v:=ak a.J) O<|dP O O<|aF jI O<|dL (E:=([(rg,1)],[])) O O zSm (cfa zAp<|cfa zAp<|cfn) (af (aZ 1 O) iJ jk O O (v:=ak a.L) O<|dP O O<|a8 (v:=.bool a.Y) O<|dP O O<|a8 (v:=ak a.J) O<|dP O O<|a8 (v:=ak a.L) O<|dN<|uZ<|aB (v:=.bool a.Y) O<|aB (v:=ak a.J) O<|aB (v:=ak a.L) O<|aJ<|aO hrg (VW.tupL<|vZ<|vZ<|vZ<|vn)<|hQ _ _ _ h)))
 refine rZ<|ac<|ar (aZ 1 O) bb dZ bH O O (v:=aq a) O<|ac<|clZ O<|l7 h λr1 h=>ac<|fQ O<|mvZ (.bool<|!r1) O<|gfZ h O O (λhb1 h=>?_) (λhb1 h=>?_)
 ·exact ac<|aF iG O<|gTZ O O hb1<|ac<|af (aZ 1 O) iJ jk O O (v:=ak a.J) O<|gTZ O O hb1<|ac<|aK bk O<|gTZ O O hb1<|ac<|bJ O O<|ac<|aY O hb1 (v:=.bool ((a.J.length:Int) == 0)) O (nZ<|⟨(((a.J.length:Int) == 0),g1),(canon (fZ<|fZ<|fn)<|sc O<|sn),h⟩)
 exact gFZ O O hb1 O<|gFZ O O hb1 O<|gFZ O O hb1 O<|ac<|aS O hb1 (v:=.bool true) O<|nZ<|⟨(true,g1),(canon (fZ<|fZ<|fn)<|sc O<|sn),h⟩
theorem ir {a:GRat} {b:GRat} {Q:GRat->Prop} (h:d7 a b Q) (hQ:∀r1,Q r1->R (aq r1) S) :
  Ctr prog 43 [aq a,aq b] S R:=by
 refine aG func43 rfl ntmps43 results43 krZ (λrg hrg=>?_)
 refine ah<|wZ rg<|bA (v:=aq a) O O (kk:=3) O dZ (λg1=>wZ rg<|bA (v:=aq b) O O (kk:=3) O dZ (λg2=>wZ rg<|aT bN dH (kk:=3) O (λg3=>aU<|ac<|ar (aZ 2 O) bb dZ bH O O (v:=aq a) O<|ac<|clZ O<|da h λr r1 r2 h=>mvZ (.tuple [.bool r,ak r1,ak r2]) O<|ac<|au (v:=.bool r) O O O<|ac<|au (v:=ak r1) O O O<|ac<|au (v:=ak r2) O O O<|asZ (.bool r) O<|asZ (ak r1) O<|asZ (ak r2) O<|aU<|ac<|ar (aZ 3 O) bb dZ bH O O (v:=aq b) O<|ac<|clZ O<|da h λr3 r4 r5 h=>mvZ (.tuple [.bool r3,ak r4,ak r5]) O<|ac<|au (v:=.bool r3) O O O<|ac<|au (v:=ak r4) O O O<|ac<|au (v:=ak r5) O O O<|asZ (.bool r3) O<|asZ (ak r4) O<|asZ (ak r5) O<|aU<|mvZ (ak r1) O<|mvZ (ak r5) O<|ac<|clZ O<|eH h λp h=>mvZ (ak r4) O<|mvZ (ak r2) O<|ac<|clZ O<|eH h λq h=>asZ (ak p) O<|asZ (ak q) O<|aU<|mvZ (ak r2) O<|mvZ (ak r5) O<|ac<|clZ O<|eH h λden h=>asZ (ak den) O<|nZ<|qZ<|ah<|mvZ (.bool r) O<|mvZ (.bool r3) O<|ac<|AN td4 O O<|nZ<|cZ h O (λhb h=>?_) (λhb h=>?_))))
 ·exact ah<|mvZ (.bool r) O<|mvZ (ak p) O<|mvZ (ak q) O<|ac<|clZ O<|ud h λr6 h=>mvZ (ak den) O<|ac<|clZ O<|dk h λr7 h=>ac<|ay (aZ 4 O) bb dZ O (w:=aq r7) O O O (v:=aq r7) O aQ<|aE<|be (aZ 4 O) bb dZ bH O O (v:=aq r7) O<|aJ<|goZ hrg<|hQ _ h
 refine kZ<|qZ<|ah<|mvZ (ak p) O<|mvZ (ak q) O<|ac<|clZ O<|gt h λr8 h=>ac<|fo O O<|nZ<|cZ h O (λhb1 h=>?_) (λhb1 h=>?_)
 ·exact ah<|mvZ (ak p) O<|mvZ (ak q) O<|ac<|clZ O<|oE h λr9 r10 h=>mvZ (.tuple [ak r9,aW 41 r10]) O<|ac<|au (v:=ak r9) O O O<|ac<|au (v:=aW 41 r10) O O O<|asZ (ak r9) O<|asZ (aW 41 r10) O<|aU<|mvZ (.bool r) O<|mvZ (ak r9) O<|mvZ (ak den) O<|ac<|clZ O<|dk h λr11 h=>ac<|ay (aZ 4 O) bb dZ O (w:=aq r11) O O O (v:=aq r11) O aQ<|aE<|be (aZ 4 O) bb dZ bH O O (v:=aq r11) O<|aJ<|goZ hrg<|hQ _ h
 exact kZ<|ah<|mvZ (ak q) O<|mvZ (ak p) O<|ac<|clZ O<|oE h λr12 r13 h=>mvZ (.tuple [ak r12,aW 41 r13]) O<|ac<|au (v:=ak r12) O O O<|ac<|au (v:=aW 41 r13) O O O<|asZ (ak r12) O<|asZ (aW 41 r13) O<|aU<|mvZ (.bool r3) O<|mvZ (ak r12) O<|mvZ (ak den) O<|ac<|clZ O<|dk h λr14 h=>ac<|ay (aZ 4 O) bb dZ O (w:=aq r14) O O O (v:=aq r14) O aQ<|aE<|be (aZ 4 O) bb dZ bH O O (v:=aq r14) O<|aJ<|goZ hrg<|hQ _ h
theorem rk {n:Int} {Q:List Int->Prop} (h:kN n Q) (hQ:∀r1,Q r1->R (ak r1) S) :
  Ctr prog 58 [iZ n] S R:=by
 refine aG func58 rfl ntmps58 results58 krZ (λrg hrg=>?_)
 refine ah<|asZ .nil O<|nZ<|qZ<|ah<|mvZ (iZ n) O<|ac<|bJ O O<|nZ<|cZ h O (λhb h=>?_) (λhb h=>?_)
 ·exact ah<|wZ rg<|bq bk dQ cM (es:=[.int .u32 0,.int .u32 2147483648]) O (kk:=1) O O O O O O (λg1=>asZ (.sl 1 rg 5 g1 0<|[0,2147483648].length) O<|aE<|aB (v:=.sl 1 rg 5 g1 0 ([0,2147483648].length)) O<|aJ<|br (k:=5) (xs:=List.map (AV.int .u32) [0,2147483648]) O (v':=ak [0,2147483648]) (bg O)<|goZ hrg<|hQ _ h)
 exact kZ<|ah<|mvZ (iZ n) O<|mvZ (iZ n) O<|tkZ h (λhg h=>ac<|Hs O hg<|ac<|zG O O<|ac<|clZ O<|pi h λr h=>asZ (ak r) O<|aE<|gv1 hrg<|hQ _ h)
theorem gp {n:Int} {Q:GRat->Prop} (h:dW n Q) (hQ:∀r1,Q r1->R (aq r1) S) :
  Ctr prog 30 [iZ n] S R:=by
 refine aG func30 rfl ntmps30 results30 krZ (λrg hrg=>?_)
 exact ah<|wZ rg<|aT bN dH (kk:=3) O (λg1=>aU<|mvZ (iZ n) O<|ac<|bi O O<|mvZ (iZ n) O<|ac<|clZ O<|rk h λr h=>ac<|clZ O<|jZ h λr1 h=>ac<|clZ O<|dk h λr2 h=>ac<|ay (aZ 2 O) bb dZ O (w:=aq r2) O O O (v:=aq r2) O aQ<|aE<|be (aZ 2 O) bb dZ bH O O (v:=aq r2) O<|aJ<|goZ hrg<|hQ _ h)
theorem iq {a:GRat} {b:GRat} {Q:GRat->Prop} (h:dl a b Q) (hQ:∀r1,Q r1->R (aq r1) S) :
  Ctr prog 31 [aq a,aq b] S R:=by
 refine aG func31 rfl ntmps31 results31 krZ (λrg hrg=>?_)
 exact ah<|wZ rg<|bA (v:=aq a) O O (kk:=3) O dZ (λg1=>wZ rg<|bA (v:=aq b) O O (kk:=3) O dZ (λg2=>wZ rg<|aT bN dH (kk:=3) O (λg3=>aU<|ac<|ar (aZ 2 O) bb dZ bH O O (v:=aq a) O<|ac<|clZ O<|da h λr r1 r2 h=>mvZ (.tuple [.bool r,ak r1,ak r2]) O<|ac<|au (v:=.bool r) O O O<|ac<|au (v:=ak r1) O O O<|ac<|au (v:=ak r2) O O O<|asZ (.bool r) O<|asZ (ak r1) O<|asZ (ak r2) O<|aU<|ac<|ar (aZ 3 O) bb dZ bH O O (v:=aq b) O<|ac<|clZ O<|da h λr3 r4 r5 h=>mvZ (.tuple [.bool r3,ak r4,ak r5]) O<|ac<|au (v:=.bool r3) O O O<|ac<|au (v:=ak r4) O O O<|ac<|au (v:=ak r5) O O O<|asZ (.bool r3) O<|asZ (ak r4) O<|asZ (ak r5) O<|aU<|mvZ (.bool r) O<|mvZ (.bool r3) O<|ac<|AM td4 O O<|mvZ (ak r1) O<|mvZ (ak r4) O<|ac<|clZ O<|eH h λr6 h=>mvZ (ak r2) O<|mvZ (ak r5) O<|ac<|clZ O<|eH h λr7 h=>ac<|clZ O<|dk h λr8 h=>ac<|ay (aZ 4 O) bb dZ O (w:=aq r8) O O O (v:=aq r8) O aQ<|aE<|be (aZ 4 O) bb dZ bH O O (v:=aq r8) O<|aJ<|goZ hrg<|hQ _ h)))
theorem sE {a:GRat} {Q:GRat->Prop} (h:l8 a Q) (hQ:∀r1,Q r1->R (aq r1) S) :
  Ctr prog 62 [aq a] S R:=by
 refine aG func62 rfl ntmps62 results62 krZ (λrg hrg=>?_)
 exact ah<|wZ rg<|bA (v:=aq a) O O (kk:=3) O dZ (λg1=>wZ rg<|aT bN dH (kk:=3) O (λg2=>aU<|ac<|ar (aZ 1 O) bb dZ bH O O (v:=aq a) O<|ac<|clZ O<|da h λr r1 r2 h=>mvZ (.tuple [.bool r,ak r1,ak r2]) O<|ac<|au (v:=.bool r) O O O<|ac<|au (v:=ak r1) O O O<|ac<|au (v:=ak r2) O O O<|asZ (.bool r) O<|asZ (ak r1) O<|asZ (ak r2) O<|aU<|mvZ (.bool r) O<|ac<|fQ O<|mvZ (ak r1) O<|mvZ (ak r2) O<|ac<|clZ O<|dk h λr3 h=>ac<|ay (aZ 2 O) bb dZ O (w:=aq r3) O O O (v:=aq r3) O aQ<|aE<|be (aZ 2 O) bb dZ bH O O (v:=aq r3) O<|aJ<|goZ hrg<|hQ _ h))
theorem ip {a:GRat} {b:GRat} {Q:GRat->Prop} (h:d6 a b Q) (hQ:∀r1,Q r1->R (aq r1) S) :
  Ctr prog 33 [aq a,aq b] S R:=by
 refine aG func33 rfl ntmps33 results33 krZ (λrg hrg=>?_)
 refine ah<|wZ rg<|bA (v:=aq a) O O (kk:=3) O dZ (λg1=>wZ rg<|bA (v:=aq b) O O (kk:=3) O dZ (λg2=>wZ rg<|aT bN dH (kk:=3) O (λg3=>nZ<|qZ ?_)))
 obtain⟨r,hc,h⟩:=h
 obtain⟨r1,hc1,h⟩:=h
 exact Vc.drawn' bG rg (gk [(2,pc (aq r)),(3,pc (aq r1))]) krZ<|dL (E:=([(rg,2)],[])) O O zSm (cfn) (ar (aZ 2 O) bb dZ bH O O (v:=aq a) O<|dL (E:=([(rg,3)],[])) O O zSm (cfa zAp<|cfn) (ar (aZ 3 O) bb dZ bH O O (v:=aq b) O<|dC (vs:=[aq b]) O (vZ<|vn) (λ_=>sE hc (λ_ hr=>⟨by rw[hr],rfl⟩)) O<|dC (vs:=[aq a,aq r]) O (vZ<|vZ<|vn) (λ_=>ir hc1 (λ_ hr=>⟨by rw[hr],rfl⟩)) O<|dL (E:=([],[(rg,4)])) O O zSm (cfo krZ<|cfo krZ<|cfn) (ay (aZ 4 O) bb dZ O (w:=aq r1) O O O (v:=aq r1) O aQ<|dN<|uZ<|be (aZ 4 O) bb dZ bH O O (v:=aq r1) O<|aJ<|goZ hrg<|hQ _ h)))
theorem ju {neg:Bool} {num:List Int} {den:List Int} {Q:GRat->Int->Prop} (h:gd neg num den Q) (hQ:∀r1 r2,Q r1 r2->R (.tuple [aq r1,iZ r2]) S) :
  Ctr prog 84 [AV.bool neg,ak num,ak den] S R:=by
 refine aG func84 rfl ntmps84 results84 krZ (λrg hrg=>?_)
 refine ah<|wZ rg<|aT bN dH (kk:=3) O (λg1=>asZ (iZ 0) O<|nZ<|qZ<|ah<|mvZ (ak den) O<|ac<|clZ O<|lZ h λr h=>ac<|bJ O O<|nZ<|cZ h O (λhb h=>?_) (λhb h=>?_))
 ·exact ah<|ac<|bC oL bN mq lR bb (ps:=[]) O O (v:=.agg [.bool false,.nil,.nil]) O<|ac<|ay (aZ 6 O) bb dZ O (w:=.agg [.bool false,.nil,.nil]) O O O (v:=.agg [.bool false,.nil,.nil]) O aQ<|asZ (iZ 8) O<|aE<|be (aZ 6 O) bb dZ bH O O (v:=.agg [.bool false,.nil,.nil]) O<|aB (v:=iZ 8) O<|aJ<|aO hrg (VW.tupL<|vl' (VW.aggL<|vZ<|vl' (VW.nilL)<|vl' (VW.nilL)<|vn)<|vZ<|vn)<|hQ _ _ h
 refine kZ<|qZ<|ah<|mvZ (ak num) O<|ac<|clZ O<|lZ h λr1 h=>ac<|bJ O O<|nZ<|cZ h O (λhb1 h=>?_) (λhb1 h=>?_)
 ·exact ah<|ac<|bC oL bN mq lR bb (ps:=[]) O O (v:=.agg [.bool false,.nil,.nil]) O<|ac<|ay (aZ 6 O) bb dZ O (w:=.agg [.bool false,.nil,.nil]) O O O (v:=.agg [.bool false,.nil,.nil]) O aQ<|asZ (iZ 0) O<|aE<|be (aZ 6 O) bb dZ bH O O (v:=.agg [.bool false,.nil,.nil]) O<|aB (v:=iZ 0) O<|aJ<|aO hrg (VW.tupL<|vl' (VW.aggL<|vZ<|vl' (VW.nilL)<|vl' (VW.nilL)<|vn)<|vZ<|vn)<|hQ _ _ h
 exact kZ<|ah<|mvZ (ak num) O<|mvZ (ak den) O<|ac<|clZ O<|qh h λg2 h=>asZ (ak g2) O<|aU<|mvZ (ak num) O<|mvZ (ak g2) O<|ac<|clZ O<|na h λr2 r3 r4 h=>mvZ (.tuple [ak r2,ak r3,iZ r4]) O<|ac<|au (v:=ak r2) O O O<|ac<|au (v:=ak r3) O O O<|ac<|au (v:=iZ r4) O O O<|asZ (ak r2) O<|asZ (ak r3) O<|asZ (iZ r4) O<|aU<|mvZ (ak den) O<|mvZ (ak g2) O<|ac<|clZ O<|na h λr5 r6 r7 h=>mvZ (.tuple [ak r5,ak r6,iZ r7]) O<|ac<|au (v:=ak r5) O O O<|ac<|au (v:=ak r6) O O O<|ac<|au (v:=iZ r7) O O O<|asZ (ak r5) O<|asZ (ak r6) O<|asZ (iZ r7) O<|aU<|mvZ (.bool neg) O<|mvZ (ak r2) O<|mvZ (ak r5) O<|ac<|bC oL bN mq lR bb (ps:=[(0,.bool neg),(1,ak r2),(2,ak r5)]) O O (v:=.agg [.bool neg,ak r2,ak r5]) O (ac<|ay (aZ 6 O) bb dZ O (w:=.agg [.bool neg,ak r2,ak r5]) O O O (v:=.agg [.bool neg,ak r2,ak r5]) O aQ<|asZ (iZ 0) O<|aE<|be (aZ 6 O) bb dZ bH O O (v:=.agg [.bool neg,ak r2,ak r5]) O<|aB (v:=iZ 0) O<|aJ<|aO hrg (VW.tupL<|vZ<|vZ<|vn)<|hQ _ _ h)
theorem o4 {n:Int} {Q:List Int->Prop} (h:ls n Q) (hQ:∀r1,Q r1->R (ak r1) S) :
  Ctr prog 85 [iZ n] S R:=by
 refine aG func85 rfl ntmps85 results85 krZ (λrg hrg=>?_)
 refine ah<|asZ .nil O<|aU<|mvZ (iZ n) O<|ac<|bP td3 cP O<|asZ (.int .u64<|IntKind.wrap .u64 n) O<|nZ<|jnZ h (λy=>a_ [(3,.int .u64 y)]) (λy=>stL S rg []) (λu h=>?_) (λ_ h=>?_)
 ·exact ah<|mvZ (.int .u64 u) O<|ac<|bP cP cI O<|mvZ (.int .u64 u) O<|ac<|je O O dZ<|ac<|bP cP cI O<|wZ rg<|bq bk dQ cM (es:=[.int .u32 (IntKind.wrap .u32 u),.int .u32 (IntKind.wrap .u32<|u / 2^(Int.toNat 32))]) O (kk:=1) O O O O O O (λg1=>asZ (.sl 1 rg 15 g1 0<|[(IntKind.wrap .u32 u),(IntKind.wrap .u32<|u / 2^(Int.toNat 32))].length) O<|aE<|aB (v:=.sl 1 rg 15 g1 0 ([(IntKind.wrap .u32 u),(IntKind.wrap .u32<|u / 2^(Int.toNat 32))].length)) O (aJ<|br (k:=15) (xs:=List.map (AV.int .u32) [(IntKind.wrap .u32 u),(IntKind.wrap .u32<|u / 2^(Int.toNat 32))]) O (v':=ak [(IntKind.wrap .u32 u),(IntKind.wrap .u32<|u / 2^(Int.toNat 32))]) (bg O) (goZ hrg<|hQ _ h)))
 refine ah<|mvZ (iZ n) O<|ac<|bi O O<|nZ<|cZ h O (λhb h=>?_) (λhb h=>?_)
 ·exact rZ<|mvZ (.int .u64<|IntKind.wrap .u64 n) O<|ac<|Gw O<|stZ h (λu1 hs h=>wZ rg<|a8 (v:=.int .u64 u1) (by subst hs;rfl)<|nZ<|⟨u1,(canon (fZ<|fn)<|sn),h⟩)
 exact kZ<|⟨(IntKind.wrap .u64 n),(canon (fZ<|fn)<|sn),h⟩
theorem o8 {n:Int} {d:Int} {Q:GRat->Int->Prop} (h:lx n d Q) (hQ:∀r1 r2,Q r1 r2->R (.tuple [aq r1,iZ r2]) S) :
  Ctr prog 45 [iZ n,iZ d] S R:=by
 refine aG func45 rfl ntmps45 results45 krZ (λrg hrg=>?_)
 exact ah<|wZ rg<|aT bN dH (kk:=3) O (λg1=>asZ (iZ 0) O<|aU<|mvZ (iZ n) O<|ac<|bi O O<|mvZ (iZ d) O<|ac<|bi O O<|ac<|AM td4 O O<|mvZ (iZ n) O<|ac<|clZ O<|o4 h λr h=>mvZ (iZ d) O<|ac<|clZ O<|o4 h λr1 h=>ac<|clZ O<|ju h λr2 r3 h=>ac<|au (v:=aq r2) O O O<|ac<|au (v:=iZ r3) O O O<|ac<|ay (aZ 4 O) bb dZ O (w:=aq r2) O O O (v:=aq r2) O aQ<|asZ (iZ r3) O<|aE<|be (aZ 4 O) bb dZ bH O O (v:=aq r2) O<|aB (v:=iZ r3) O<|aJ<|aO hrg (VW.tupL<|vZ<|vZ<|vn)<|hQ _ _ h)
theorem py {a:List Int} {b:List Int} {Q:Bool->Prop} (h:lI a b Q) (hQ:∀r1,Q r1->R (AV.bool r1) S) :
  Ctr prog 44 [ak a,ak b] S R:=by
 refine aG func44 rfl ntmps44 results44 krZ (λrg hrg=>?_)
 refine ah<|asZ (.bool false) O<|nZ<|qZ<|ah<|mvZ (ak a) O<|ac<|aK bk O<|mvZ (ak b) O<|ac<|aK bk O<|ac<|fA O O<|nZ<|cZ h O (λhb h=>?_) (λhb h=>?_)
 ·exact ah<|asZ (.bool false) O<|aE<|gv1 hrg<|hQ _ h
 refine kZ<|qZ<|ah<|mvZ (ak a) O<|ac<|aK bk O<|mvZ (iZ 0) O<|nZ<|bZ<|lpZ h (λy=>a_ [(0,ak a),(1,ak b),(12,iZ (a.length:Int)),(13,iZ y)]) (λy=>stL S rg []) (canon (aN<|fn)<|sn) (λx _ h=>ah<|ac<|bi O O<|nZ<|qZ<|cZ h O (λhb1 h=>?_) (λhb1 h=>?_))
 ·refine kZ<|qZ<|bZ<|ah<|mvZ (iZ x) O<|asZ (iZ x) O<|nZ<|qZ<|tkZ h (λhg h=>tkZ h (λhg1 h=>Vc.drawn' bG rg (λ_=>gN) krZ<|dP O O<|aD (v:=ak a) O<|dP O O<|aD (v:=iZ x) O<|dP O O<|a9 bk bo dZ (λ_=>O) O O hg<|dP O O<|aP bo dw O O (v:=.int .u32 (at' a x)) O<|dP O O<|aD (v:=ak b) O<|dP O O<|aD (v:=iZ x) O<|dP O O<|a9 bk bo dZ (λ_=>O) O O hg1<|dP O O<|aP bo dw O O (v:=.int .u32 (at' b x)) O<|dP O O<|fA O O<|dN<|cZ h O (λhb2 h=>?_) (λhb2 h=>?_)))
  ·exact ah<|asZ (.bool false) O<|aE<|gv1 hrg<|hQ _ h
  exact kZ<|rZ<|tkZ h (λhg2 h=>ac<|aC O O hg2<|mvZ (iZ<|x+1) O<|nZ<|⟨(x+1),(canon (aN<|fn)<|sn),h⟩)
 exact xsZ<|ah<|asZ (.bool true) O<|aE<|gv1 hrg<|hQ _ h
theorem oy {a:GRat} {b:GRat} {Q:Bool->Prop} (h:oz a b Q) (hQ:∀r1,Q r1->R (AV.bool r1) S) :
  Ctr prog 17 [aq a,aq b] S R:=by
 refine aG func17 rfl ntmps17 results17 krZ (λrg hrg=>?_)
 refine ah<|wZ rg<|bA (v:=aq a) O O (kk:=3) O dZ (λg1=>wZ rg<|bA (v:=aq b) O O (kk:=3) O dZ (λg2=>asZ (.bool false) O<|aU<|ac<|aF pn O<|ac<|af (aZ 2 O) sz4 ag4 O O (v:=.bool a.Y) O<|ac<|aF pn O<|ac<|af (aZ 3 O) sz4 ag4 O O (v:=.bool b.Y) O<|ac<|AN td4 O O<|mvZ (.bool<|a.Y == b.Y) O<|gtZ h O O (λhb h=>?_) (λhb h=>?_)))
 ·refine ac<|aF iG O<|gTZ O O hb<|ac<|af (aZ 2 O) iJ jk O O (v:=ak a.J) O<|gTZ O O hb<|ac<|aF iG O<|gTZ O O hb<|ac<|af (aZ 3 O) iJ jk O O (v:=ak b.J) O<|gTZ O O hb<|ac<|clZ O<|py h λr h=>ac<|aS O hb (v:=.bool r) O<|mvZ (.bool r) O<|gtZ h O O (λhb1 h=>?_) (λhb1 h=>?_)
  ·exact ac<|aF jI O<|gTZ O O hb1<|ac<|af (aZ 2 O) iJ jk O O (v:=ak a.L) O<|gTZ O O hb1<|ac<|aF jI O<|gTZ O O hb1<|ac<|af (aZ 3 O) iJ jk O O (v:=ak b.L) O<|gTZ O O hb1<|ac<|clZ O<|py h λr1 h=>ac<|aS O hb1 (v:=.bool r1) O<|asZ (.bool r1) O<|aE<|gv1 hrg<|hQ _ h
  exact gFZ O O hb1 O<|gFZ O O hb1 O<|gFZ O O hb1 O<|gFZ O O hb1 O<|ac<|aY O hb1 (v:=.bool false) O<|asZ (.bool false) O<|aE<|gv1 hrg<|hQ _ h
 exact gFZ O O hb O<|gFZ O O hb O<|gFZ O O hb O<|gFZ O O hb O<|ac<|aY O hb (v:=.bool false) O<|mvZ (.bool false) O<|gFZ O O O O<|gFZ O O O O<|gFZ O O O O<|gFZ O O O O<|gFZ O O O O<|ac<|aY O O (v:=.bool false) O<|asZ (.bool false) O<|aE<|gv1 hrg<|hQ _ h
theorem xd {a:List GRat} {b:List GRat} {Q:Bool->Prop} (h:mR a b Q) (hQ:∀r1,Q r1->R (AV.bool r1) S) :
  Ctr prog 19 [eL aq a,eL aq b] S R:=by
 refine aG func19 rfl ntmps19 results19 krZ (λrg hrg=>?_)
 refine ah<|asZ (.bool false) O<|nZ<|qZ<|ah<|mvZ (eL aq a) O<|ac<|aK eE O<|mvZ (eL aq b) O<|ac<|aK eE O<|ac<|fA O O<|nZ<|cZ h O (λhb h=>?_) (λhb h=>?_)
 ·exact ah<|asZ (.bool false) O<|aE<|gv1 hrg<|hQ _ h
 refine kZ<|qZ<|ah<|mvZ (eL aq a) O<|ac<|aK eE O<|mvZ (iZ 0) O<|nZ<|bZ<|lpZ h (λy=>a_ [(0,eL aq a),(1,eL aq b),(12,iZ (a.length:Int)),(13,iZ y)]) (λy=>stL S rg []) (canon (aN<|fn)<|sn) (λx _ h=>ah<|ac<|bi O O<|nZ<|qZ<|cZ h O (λhb1 h=>?_) (λhb1 h=>?_))
 ·refine kZ<|qZ<|bZ<|ah<|mvZ (iZ x) O<|asZ (iZ x) O<|nZ<|qZ<|tkZ h (λhg h=>tkZ h (λhg1 h=>?_))
  obtain⟨r,hc,h⟩:=h
  refine Vc.drawn' bG rg (gk [(8,pc (.bool r))]) krZ<|dP O O<|aD (v:=eL aq a) O<|dP O O<|aD (v:=iZ x) O<|dP O O<|a9 eE bb dZ (λ_=>O) O O hg<|dP O O<|cz bb dZ bH O O (v:=aq (at' a x)) O<|dP O O<|aD (v:=eL aq b) O<|dP O O<|aD (v:=iZ x) O<|dP O O<|a9 eE bb dZ (λ_=>O) O O hg1<|dP O O<|cz bb dZ bH O O (v:=aq (at' b x)) O<|dC (vs:=[aq (at' a x),aq (at' b x)]) O (vZ<|vZ<|vn) (λ_=>oy hc (λ_ hr=>⟨by rw[hr],rfl⟩)) O<|dP O O<|fQ O<|dN<|cZ h O (λhb2 h=>?_) (λhb2 h=>?_)
  ·exact ah<|asZ (.bool false) O<|aE<|gv1 hrg<|hQ _ h
  exact kZ<|rZ<|tkZ h (λhg2 h=>ac<|aC O O hg2<|mvZ (iZ<|x+1) O<|nZ<|⟨(x+1),(canon (aN<|fn)<|sn),h⟩)
 exact xsZ<|ah<|asZ (.bool true) O<|aE<|gv1 hrg<|hQ _ h
theorem iT {a:GRat} {Q:Bool->Prop} (h:iN a Q) (hQ:∀r1,Q r1->R (AV.bool r1) S) :
  Ctr prog 49 [aq a] S R:=by
 refine aG func49 rfl ntmps49 results49 krZ (λrg hrg=>?_)
 refine ah<|wZ rg<|bA (v:=aq a) O O (kk:=3) O dZ (λg1=>asZ (.bool false) O<|nZ<|qZ<|Vc.drawn' bG rg (λ_=>gN) krZ<|dP O O<|aF iG O<|dL (E:=([(rg,1)],[])) O O zSm (cfn) (af (aZ 1 O) iJ jk O O (v:=ak a.J) O<|dP O O<|aK bk O<|dP O O<|aF jI O<|dL (E:=([(rg,1)],[])) O O zSm (cfa zAp<|cfn) (af (aZ 1 O) iJ jk O O (v:=ak a.L) O<|dP O O<|aK bk O<|dP O O<|a8 (v:=iZ (a.J.length:Int)) O<|dP O O<|a8 (v:=iZ (a.L.length:Int)) O<|dN<|qZ<|jgZ (γ:=Nat) h (λy=>a_ [(1,.ptr rg 1 y.2 0 0),(3,iZ (a.J.length:Int)),(4,iZ (a.L.length:Int)),(16,.bool y.1)]) (λy=>stL S rg [(1,.arr 3 [aq a],y.2)]) (λy h=>?_) (λ_ h=>?_))))
 ·obtain⟨x,g2⟩:=y
  refine cZ h O (λhb h=>?_) (λhb h=>?_)
  ·refine ah<|mvZ (iZ (a.J.length:Int)) O<|ac<|bJ O O<|mvZ (.bool<|(a.J.length:Int) == 0) O<|gtZ h O O (λhb1 h=>?_) (λhb1 h=>?_)
   ·refine mvZ (iZ (a.L.length:Int)) O<|gTZ O O hb1<|ac<|bJ O O<|ac<|aS O hb1 (v:=.bool ((a.L.length:Int) == 0)) O (mvZ (.bool<|(a.L.length:Int) == 0) O<|gtZ h O O (λhb2 h=>?_) (λhb2 h=>?_))
    ·exact ac<|aF pn O<|gTZ O O hb2<|ac<|af (aZ 1 O) sz4 ag4 O O (v:=.bool a.Y) O<|gTZ O O hb2<|ac<|fQ O<|ac<|aS O hb2 (v:=.bool (!a.Y)) O<|asZ (.bool<|!a.Y) O<|aE<|gv1 hrg<|hQ _ h
    exact gFZ O O hb2 O<|gFZ O O hb2 O<|ac<|aY O hb2 (v:=.bool false) O<|asZ (.bool false) O<|aE<|gv1 hrg<|hQ _ h
   exact gFZ O O hb1 O<|ac<|aY O hb1 (v:=.bool false) O<|mvZ (.bool false) O<|gFZ O O O O<|gFZ O O O O<|gFZ O O O O<|ac<|aY O O (v:=.bool false) O<|asZ (.bool false) O<|aE<|gv1 hrg<|hQ _ h
  refine kZ<|ah<|ac<|aF iG O<|ac<|af (aZ 1 O) iJ jk O O (v:=ak a.J) O<|mvZ (iZ (a.J.length:Int)) O<|tkZ h (λhg h=>ac<|bL O O hg<|tkZ h (λhg1 h=>ac<|a9 bk bo dZ (λ_=>O) O O hg1<|ac<|aP bo dw O O (v:=.int .u32 (at' a.J<|(a.J.length:Int)-1)) O (ac<|fA O O<|mvZ (.bool<|(at' a.J<|(a.J.length:Int)-1) != 0) O (gtZ h O O (λhb3 h=>?_) (λhb3 h=>?_)))))
  ·refine ac<|aF jI O<|gTZ O O hb3<|ac<|af (aZ 1 O) iJ jk O O (v:=ak a.L) O<|gTZ O O hb3<|mvZ (iZ (a.L.length:Int)) O<|gTZ O O hb3<|tkZ h (λhg2 h=>ac<|bL O O hg2<|gTZ O O hb3<|tkZ h (λhg3 h=>ac<|a9 bk bo dZ (λ_=>O) O O hg3<|gTZ O O hb3<|ac<|aP bo dw O O (v:=.int .u32 (at' a.L<|(a.L.length:Int)-1)) O (gTZ O O hb3<|ac<|fA O O<|ac<|aS O hb3 (v:=.bool ((at' a.L<|(a.L.length:Int)-1) != 0)) O (mvZ (.bool<|(at' a.L<|(a.L.length:Int)-1) != 0) O (gtZ h O O (λhb4 h=>?_) (λhb4 h=>?_))))))
   ·exact ac<|aF iG O<|gTZ O O hb4<|ac<|af (aZ 1 O) iJ jk O O (v:=ak a.J) O<|gTZ O O hb4<|ac<|aF jI O<|gTZ O O hb4<|ac<|af (aZ 1 O) iJ jk O O (v:=ak a.L) O<|gTZ O O hb4<|ac<|clZ O<|qh h λr h=>gTZ O O hb4<|ac<|clZ O<|lZ h λr1 h=>gTZ O O hb4<|ac<|bJ O O<|ac<|aS O hb4 (v:=.bool (r1 == 1)) O<|asZ (.bool<|r1 == 1) O<|aE<|gv1 hrg<|hQ _ h
   exact gFZ O O hb4 O<|gFZ O O hb4 O<|gFZ O O hb4 O<|gFZ O O hb4 O<|gFZ O O hb4 O<|gFZ O O hb4 O<|ac<|aY O hb4 (v:=.bool false) O<|asZ (.bool false) O<|aE<|gv1 hrg<|hQ _ h
  exact gFZ O O hb3 O<|gFZ O O hb3 O<|gFZ O O hb3 O<|gFZ O O hb3 O<|gFZ O O hb3 O<|gFZ O O hb3 O<|ac<|aY O hb3 (v:=.bool false) O<|mvZ (.bool false) O<|gFZ O O O O<|gFZ O O O O<|gFZ O O O O<|gFZ O O O O<|gFZ O O O O<|gFZ O O O O<|gFZ O O O O<|ac<|aY O O (v:=.bool false) O<|asZ (.bool false) O<|aE<|gv1 hrg<|hQ _ h
 refine rZ<|mvZ (iZ (a.J.length:Int)) O<|ac<|bJ O O<|mvZ (.bool<|(a.J.length:Int) == 0) O<|gfZ h O O (λhb5 h=>?_) (λhb5 h=>?_)
 ·exact mvZ (iZ (a.L.length:Int)) O<|gTZ O O hb5<|ac<|bJ O O<|ac<|aY O hb5 (v:=.bool ((a.L.length:Int) == 0)) O (nZ<|⟨(((a.L.length:Int) == 0),g1),(canon (aN<|fn)<|sc O<|sn),h⟩)
 exact gFZ O O hb5 O<|ac<|aS O hb5 (v:=.bool true) O<|nZ<|⟨(true,g1),(canon (aN<|fn)<|sc O<|sn),h⟩
theorem iU {a:GRat} {Q:Bool->List Int->List Int->Prop} (h:gC a Q) (hQ:∀r1 r2 r3,Q r1 r2 r3->R (.tuple [AV.bool r1,ak r2,ak r3]) S) :
  Ctr prog 74 [aq a] S R:=by
 refine aG func74 rfl ntmps74 results74 krZ (λrg hrg=>?_)
 refine ah<|wZ rg<|bA (v:=aq a) O O (kk:=3) O dZ (λg1=>asZ (.bool false) O<|asZ .nil O<|asZ .nil O<|nZ<|qZ<|jgZ (γ:=Nat) h (λy=>a_ [(1,.ptr rg 1 y.2 0 0),(13,.bool y.1)]) (λy=>stL S rg [(1,.arr 3 [aq a],y.2)]) (λy h=>?_) (λ_ h=>?_))
 ·obtain⟨x,g2⟩:=y
  refine cZ h O (λhb h=>?_) (λhb h=>?_)
  ·exact ah<|wZ rg<|bq bk dQ cM (es:=[.int .u32 1]) O (kk:=1) O O O O O O (λg3=>asZ (.bool false) O<|asZ .nil O<|asZ (.sl 1 rg 14 g3 0<|[1].length) O<|aE<|aB (v:=.bool false) O<|aB (v:=.nil) O<|aB (v:=.sl 1 rg 14 g3 0 ([1].length)) O<|aJ<|br (k:=14) (xs:=List.map (AV.int .u32) [1]) O (v':=.tuple [.bool false,.nil,ak [1]]) (VW.tupL<|vZ<|vZ<|vl' (bg O)<|vn)<|aO hrg (VW.tupL<|vZ<|vl' (VW.nilL)<|vZ<|vn)<|hQ _ _ _ h)
  exact kZ<|qZ<|Vc.drawn' bG rg (λ_=>gN) krZ<|dP O O<|aF pn O<|dL (E:=([(rg,1)],[])) O O zSm (cfn) (af (aZ 1 O) sz4 ag4 O O (v:=.bool a.Y) O<|dP O O<|aF iG O<|dL (E:=([(rg,1)],[])) O O zSm (cfa zAp<|cfn) (af (aZ 1 O) iJ jk O O (v:=ak a.J) O<|dP O O<|aF jI O<|dL (E:=([(rg,1)],[])) O O zSm (cfa zAp<|cfa zAp<|cfn) (af (aZ 1 O) iJ jk O O (v:=ak a.L) O<|dP O O<|a8 (v:=.bool a.Y) O<|dP O O<|a8 (v:=ak a.J) O<|dP O O<|a8 (v:=ak a.L) O<|dN<|uZ<|aB (v:=.bool a.Y) O<|aB (v:=ak a.J) O<|aB (v:=ak a.L) O<|aJ<|aO hrg (VW.tupL<|vZ<|vZ<|vZ<|vn)<|hQ _ _ _ h)))
 refine rZ<|ac<|ar (aZ 1 O) bb dZ bH O O (v:=aq a) O<|ac<|clZ O<|iT h λr h=>ac<|fQ O<|mvZ (.bool<|!r) O<|gfZ h O O (λhb1 h=>?_) (λhb1 h=>?_)
 ·exact ac<|aF iG O<|gTZ O O hb1<|ac<|af (aZ 1 O) iJ jk O O (v:=ak a.J) O<|gTZ O O hb1<|ac<|aK bk O<|gTZ O O hb1<|ac<|bJ O O<|ac<|aY O hb1 (v:=.bool ((a.J.length:Int) == 0)) O (nZ<|⟨(((a.J.length:Int) == 0),g1),(canon (fZ<|fZ<|fn)<|sc O<|sn),h⟩)
 exact gFZ O O hb1 O<|gFZ O O hb1 O<|gFZ O O hb1 O<|ac<|aS O hb1 (v:=.bool true) O<|nZ<|⟨(true,g1),(canon (fZ<|fZ<|fn)<|sc O<|sn),h⟩
theorem lY {a:GRat} {Q:Int->Prop} (h:il a Q) (hQ:∀r1,Q r1->R (iZ r1) S) :
  Ctr prog 38 [aq a] S R:=by
 refine aG func38 rfl ntmps38 results38 krZ (λrg hrg=>?_)
 refine ah<|wZ rg<|bA (v:=aq a) O O (kk:=3) O dZ (λg1=>asZ (iZ 0) O<|aU<|ac<|ar (aZ 1 O) bb dZ bH O O (v:=aq a) O<|ac<|clZ O<|iU h λr r1 r2 h=>mvZ (.tuple [.bool r,ak r1,ak r2]) O<|ac<|au (v:=.bool r) O O O<|ac<|au (v:=ak r1) O O O<|ac<|au (v:=ak r2) O O O<|asZ (.bool r) O<|asZ (ak r1) O<|asZ (ak r2) O<|nZ<|qZ<|ah<|mvZ (ak r1) O<|ac<|aK bk O<|ac<|bJ O O<|nZ<|cZ h O (λhb h=>?_) (λhb h=>?_))
 ·exact ah<|asZ (iZ 0) O<|aE<|gv1 hrg<|hQ _ h
 refine kZ<|qZ<|ah<|mvZ (.bool r) O<|nZ<|cZ h O (λhb1 h=>?_) (λhb1 h=>?_)
 ·exact ah<|asZ (iZ<|-1) O<|aE<|gv1 hrg<|hQ _ h
 exact kZ<|ah<|asZ (iZ 1) O<|aE<|gv1 hrg<|hQ _ h
theorem wV {a:GRat} {b:GRat} {Q:GRat->Prop} (h:o9 a b Q) (hQ:∀r1,Q r1->R (aq r1) S) :
  Ctr prog 75 [aq a,aq b] S R:=by
 refine aG func75 rfl ntmps75 results75 krZ (λrg hrg=>?_)
 refine ah<|wZ rg<|bA (v:=aq a) O O (kk:=3) O dZ (λg1=>wZ rg<|bA (v:=aq b) O O (kk:=3) O dZ (λg2=>wZ rg<|aT bN dH (kk:=3) O (λg3=>aU<|ac<|ar (aZ 2 O) bb dZ bH O O (v:=aq a) O<|ac<|clZ O<|iU h λr r1 r2 h=>mvZ (.tuple [.bool r,ak r1,ak r2]) O<|ac<|au (v:=.bool r) O O O<|ac<|au (v:=ak r1) O O O<|ac<|au (v:=ak r2) O O O<|asZ (.bool r) O<|asZ (ak r1) O<|asZ (ak r2) O<|aU<|ac<|ar (aZ 3 O) bb dZ bH O O (v:=aq b) O<|ac<|clZ O<|iU h λr3 r4 r5 h=>mvZ (.tuple [.bool r3,ak r4,ak r5]) O<|ac<|au (v:=.bool r3) O O O<|ac<|au (v:=ak r4) O O O<|ac<|au (v:=ak r5) O O O<|asZ (.bool r3) O<|asZ (ak r4) O<|asZ (ak r5) O<|aU<|mvZ (ak r1) O<|mvZ (ak r5) O<|ac<|clZ O<|km h λx h=>mvZ (ak r4) O<|mvZ (ak r2) O<|ac<|clZ O<|km h λy1 h=>mvZ (ak r2) O<|mvZ (ak r5) O<|ac<|clZ O<|km h λden h=>asZ (ak x) O<|asZ (ak y1) O<|asZ (ak den) O<|nZ<|qZ<|ah<|mvZ (.bool r) O<|mvZ (.bool r3) O<|ac<|AN td4 O O<|nZ<|cZ h O (λhb h=>?_) (λhb h=>?_))))
 ·exact ah<|mvZ (.bool r) O<|mvZ (ak x) O<|mvZ (ak y1) O<|ac<|clZ O<|wW h λr6 h=>mvZ (ak den) O<|ac<|clZ O<|ju h λr7 r8 h=>mvZ (.tuple [aq r7,iZ r8]) O<|ac<|au (v:=aq r7) O O O<|ac<|au (v:=iZ r8) O O O<|wZ rg<|aT bN dH (kk:=3) O (λg4=>ac<|ay (aZ 14 O) bb dZ O (w:=aq r7) O O O (v:=aq r7) O aQ<|asZ (iZ r8) O<|aU<|ac<|ar (aZ 14 O) bb dZ bH O O (v:=aq r7) O<|ac<|ay (aZ 4 O) bb dZ O (w:=aq r7) O O O (v:=aq r7) O aQ<|aE<|be (aZ 4 O) bb dZ bH O O (v:=aq r7) O<|aJ<|goZ hrg<|hQ _ h)
 refine kZ<|jgZ (γ:=Nat) h (λy=>a_ [(4,.ptr rg 4 y.2 0 0),(5,.bool y.1.1),(11,ak y.1.2.1),(12,ak y.1.2.2),(13,ak den)]) (λy=>stL S rg [(4,.arr 3 [.agg [.bool false,.nil,.nil]],y.2)]) (λy h=>?_) (λ_ h=>?_)
 ·obtain⟨⟨s,x1,y2⟩,g5⟩:=y
  exact ah<|mvZ (ak x1) O<|mvZ (ak y2) O<|ac<|clZ O<|m_ h λr9 r10 h=>mvZ (.tuple [ak r9,iZ r10]) O<|ac<|au (v:=ak r9) O O O<|ac<|au (v:=iZ r10) O O O<|asZ (ak r9) O<|asZ (iZ r10) O<|aU<|mvZ (.bool s) O<|mvZ (ak r9) O<|mvZ (ak den) O<|ac<|clZ O<|ju h λr11 r12 h=>mvZ (.tuple [aq r11,iZ r12]) O<|ac<|au (v:=aq r11) O O O<|ac<|au (v:=iZ r12) O O O<|wZ rg<|aT bN dH (kk:=3) O (λg6=>ac<|ay (aZ 18 O) bb dZ O (w:=aq r11) O O O (v:=aq r11) O aQ<|asZ (iZ r12) O<|aU<|ac<|ar (aZ 18 O) bb dZ bH O O (v:=aq r11) O<|ac<|ay (aZ 4 O) bb dZ O (w:=aq r11) O O O (v:=aq r11) O aQ<|aE<|be (aZ 4 O) bb dZ bH O O (v:=aq r11) O<|aJ<|goZ hrg<|hQ _ h)
 refine ah<|mvZ (ak x) O<|mvZ (ak y1) O<|ac<|clZ O<|nb h λr13 h=>ac<|bi O O<|nZ<|cZ h O (λhb1 h=>?_) (λhb1 h=>?_)
 ·exact rZ<|mvZ (.bool r3) O<|mvZ (ak y1) O<|mvZ (ak x) O<|asZ (.bool r3) O<|asZ (ak y1) O<|asZ (ak x) O<|nZ<|⟨((r3,y1,x),g3),(canon (aN<|fZ<|fn)<|sc O<|sn),h⟩
 exact kZ<|⟨((r,x,y1),g3),(canon (aN<|fZ<|fn)<|sc O<|sn),h⟩
theorem wU {a:GRat} {Q:GRat->Prop} (h:o7 a Q) (hQ:∀r1,Q r1->R (aq r1) S) :
  Ctr prog 76 [aq a] S R:=by
 refine aG func76 rfl ntmps76 results76 krZ (λrg hrg=>?_)
 exact ah<|wZ rg<|bA (v:=aq a) O O (kk:=3) O dZ (λg1=>wZ rg<|aT bN dH (kk:=3) O (λg2=>aU<|ac<|ar (aZ 1 O) bb dZ bH O O (v:=aq a) O<|ac<|clZ O<|iU h λr r1 r2 h=>mvZ (.tuple [.bool r,ak r1,ak r2]) O<|ac<|au (v:=.bool r) O O O<|ac<|au (v:=ak r1) O O O<|ac<|au (v:=ak r2) O O O<|asZ (.bool r) O<|asZ (ak r1) O<|asZ (ak r2) O<|aU<|mvZ (.bool r) O<|ac<|fQ O<|mvZ (ak r1) O<|mvZ (ak r2) O<|ac<|clZ O<|ju h λr3 r4 h=>mvZ (.tuple [aq r3,iZ r4]) O<|ac<|au (v:=aq r3) O O O<|ac<|au (v:=iZ r4) O O O<|wZ rg<|aT bN dH (kk:=3) O (λg3=>ac<|ay (aZ 6 O) bb dZ O (w:=aq r3) O O O (v:=aq r3) O aQ<|asZ (iZ r4) O<|aU<|ac<|ar (aZ 6 O) bb dZ bH O O (v:=aq r3) O<|ac<|ay (aZ 2 O) bb dZ O (w:=aq r3) O O O (v:=aq r3) O aQ<|aE<|be (aZ 2 O) bb dZ bH O O (v:=aq r3) O<|aJ<|goZ hrg<|hQ _ h)))
theorem wT {a:GRat} {b:GRat} {Q:GRat->Prop} (h:o5 a b Q) (hQ:∀r1,Q r1->R (aq r1) S) :
  Ctr prog 39 [aq a,aq b] S R:=by
 refine aG func39 rfl ntmps39 results39 krZ (λrg hrg=>?_)
 refine ah<|wZ rg<|bA (v:=aq a) O O (kk:=3) O dZ (λg1=>wZ rg<|bA (v:=aq b) O O (kk:=3) O dZ (λg2=>wZ rg<|aT bN dH (kk:=3) O (λg3=>nZ<|qZ ?_)))
 obtain⟨r,hc,h⟩:=h
 obtain⟨r1,hc1,h⟩:=h
 exact Vc.drawn' bG rg (gk [(2,pc (aq r)),(3,pc (aq r1))]) krZ<|dL (E:=([(rg,2)],[])) O O zSm (cfn) (ar (aZ 2 O) bb dZ bH O O (v:=aq a) O<|dL (E:=([(rg,3)],[])) O O zSm (cfa zAp<|cfn) (ar (aZ 3 O) bb dZ bH O O (v:=aq b) O<|dC (vs:=[aq b]) O (vZ<|vn) (λ_=>wU hc (λ_ hr=>⟨by rw[hr],rfl⟩)) O<|dC (vs:=[aq a,aq r]) O (vZ<|vZ<|vn) (λ_=>wV hc1 (λ_ hr=>⟨by rw[hr],rfl⟩)) O<|dL (E:=([],[(rg,4)])) O O zSm (cfo krZ<|cfo krZ<|cfn) (ay (aZ 4 O) bb dZ O (w:=aq r1) O O O (v:=aq r1) O aQ<|dN<|uZ<|be (aZ 4 O) bb dZ bH O O (v:=aq r1) O<|aJ<|goZ hrg<|hQ _ h)))
theorem qg {a:GRat} {b:GRat} {Q:Int->Prop} (h:gU a b Q) (hQ:∀r1,Q r1->R (iZ r1) S) :
  Ctr prog 14 [aq a,aq b] S R:=by
 refine aG func14 rfl ntmps14 results14 krZ (λrg hrg=>?_)
 exact ah<|wZ rg<|bA (v:=aq a) O O (kk:=3) O dZ (λg1=>wZ rg<|bA (v:=aq b) O O (kk:=3) O dZ (λg2=>asZ (iZ 0) O<|aU<|ac<|ar (aZ 2 O) bb dZ bH O O (v:=aq a) O<|ac<|ar (aZ 3 O) bb dZ bH O O (v:=aq b) O<|ac<|clZ O<|wT h λr h=>ac<|clZ O<|lY h λr1 h=>asZ (iZ r1) O<|aE<|gv1 hrg<|hQ _ h))
theorem yd {n:Int} {Q:GRat->Prop} (h:n9 n Q) (hQ:∀r1,Q r1->R (aq r1) S) :
  Ctr prog 50 [iZ n] S R:=by
 refine aG func50 rfl ntmps50 results50 krZ (λrg hrg=>?_)
 exact ah<|wZ rg<|aT bN dH (kk:=3) O (λg1=>aU<|mvZ (iZ n) O<|ac<|clZ O<|o8 h λr r1 h=>mvZ (.tuple [aq r,iZ r1]) O<|ac<|au (v:=aq r) O O O<|ac<|au (v:=iZ r1) O O O<|wZ rg<|aT bN dH (kk:=3) O (λg2=>ac<|ay (aZ 3 O) bb dZ O (w:=aq r) O O O (v:=aq r) O aQ<|asZ (iZ r1) O<|aU<|ac<|ar (aZ 3 O) bb dZ bH O O (v:=aq r) O<|ac<|ay (aZ 2 O) bb dZ O (w:=aq r) O O O (v:=aq r) O aQ<|aE<|be (aZ 2 O) bb dZ bH O O (v:=aq r) O<|aJ<|goZ hrg<|hQ _ h))
theorem o6 {a:GRat} {Q:Bool->Prop} (h:lw a Q) (hQ:∀r1,Q r1->R (AV.bool r1) S) :
  Ctr prog 24 [aq a] S R:=by
 refine aG func24 rfl ntmps24 results24 krZ (λrg hrg=>?_)
 refine ah<|wZ rg<|bA (v:=aq a) O O (kk:=3) O dZ (λg1=>asZ (.bool false) O<|nZ<|qZ ?_)
 obtain⟨r,hc,h⟩:=h
 refine bcZ h (λhb h=>?_) (λhb h=>?_)
 ·obtain⟨r1,hc1,h⟩:=h
  refine bcZ h (λhb1 h=>?_) (λhb1 h=>?_)
  ·obtain⟨r2,hc2,h⟩:=h
   obtain⟨r3,hc3,h⟩:=h
   exact Vc.drawn' bG rg (gk [(1,pc (.bool r)),(4,pc (iZ r1)),(9,pc (aq r2)),(10,pc (iZ r3))]) krZ<|dL (E:=([(rg,1)],[])) O O zSm (cfn) (ar (aZ 1 O) bb dZ bH O O (v:=aq a) O<|dC (vs:=[aq a]) O (vZ<|vn) (λ_=>iT hc (λ_ hr=>⟨by rw[hr],rfl⟩)) O<|dP O O<|aD (v:=.bool r) O<|dGT O O hb<|dL (E:=([(rg,1)],[])) O O zSm (cfo krZ<|cfn) (ar (aZ 1 O) bb dZ bH O O (v:=aq a) O<|dGT O O O<|dC (vs:=[aq a]) O (vZ<|vn) (λ_=>lY hc1 (λ_ hr=>⟨by rw[hr],rfl⟩)) O<|dGT O O O<|dP O O<|fo O O<|dP O O<|aS O O (v:=.bool (decide<|0<=r1)) O (dP O O<|aD (v:=.bool (decide<|0<=r1)) O (dGT O O hb1<|dL (E:=([(rg,1)],[])) O O zSm (cfo krZ<|cfo krZ<|cfn) (ar (aZ 1 O) bb dZ bH O O (v:=aq a) O<|dGT O O O<|dC (vs:=[iZ 1]) O (vZ<|vn) (λ_=>yd hc2 (λ_ hr=>⟨by rw[hr],rfl⟩)) O<|dGT O O O<|dC (vs:=[aq a,aq r2]) O (vZ<|vZ<|vn) (λ_=>qg hc3 (λ_ hr=>⟨by rw[hr],rfl⟩)) O<|dGT O O O<|dP O O<|rx O O<|dP O O<|aS O O (v:=.bool (decide<|r3<=0)) O (dP O O<|a8 (v:=.bool (decide<|r3<=0)) O (dN<|uZ<|gv1 hrg<|hQ _ h)))))))
  exact Vc.drawn' bG rg (gk [(1,pc (.bool r)),(4,pc (iZ r1))]) krZ<|dL (E:=([(rg,1)],[])) O O zSm (cfn) (ar (aZ 1 O) bb dZ bH O O (v:=aq a) O<|dC (vs:=[aq a]) O (vZ<|vn) (λ_=>iT hc (λ_ hr=>⟨by rw[hr],rfl⟩)) O<|dP O O<|aD (v:=.bool r) O<|dGT O O hb<|dL (E:=([(rg,1)],[])) O O zSm (cfo krZ<|cfn) (ar (aZ 1 O) bb dZ bH O O (v:=aq a) O<|dGT O O O<|dC (vs:=[aq a]) O (vZ<|vn) (λ_=>lY hc1 (λ_ hr=>⟨by rw[hr],rfl⟩)) O<|dGT O O O<|dP O O<|fo O O<|dP O O<|aS O O (v:=.bool (decide<|0<=r1)) O (dP O O<|aD (v:=.bool (decide<|0<=r1)) O (dGF O O hb1 O<|dGF O O O O<|dGF O O O O<|dGF O O O O<|dP O O<|aY O O (v:=.bool false) O<|dP O O<|a8 (v:=.bool false) O<|dN<|uZ<|gv1 hrg<|hQ _ h))))
 exact Vc.drawn' bG rg (gk [(1,pc (.bool r))]) krZ<|dL (E:=([(rg,1)],[])) O O zSm (cfn) (ar (aZ 1 O) bb dZ bH O O (v:=aq a) O<|dC (vs:=[aq a]) O (vZ<|vn) (λ_=>iT hc (λ_ hr=>⟨by rw[hr],rfl⟩)) O<|dP O O<|aD (v:=.bool r) O<|dGF O O hb O<|dGF O O O O<|dGF O O O O<|dP O O<|aY O O (v:=.bool false) O<|dP O O<|aD (v:=.bool false) O<|dGF O O O O<|dGF O O O O<|dGF O O O O<|dGF O O O O<|dP O O<|aY O O (v:=.bool false) O<|dP O O<|a8 (v:=.bool false) O<|dN<|uZ<|gv1 hrg<|hQ _ h)
theorem sF {a:GRat} {b:GRat} {Q:GRat->Option Int->Prop} (h:gW a b Q) (hQ:∀r1 r2,Q r1 r2->R (.tuple [aq r1,aW 41 r2]) S) :
  Ctr prog 32 [aq a,aq b] S R:=by
 refine aG func32 rfl ntmps32 results32 krZ (λrg hrg=>?_)
 refine ah<|wZ rg<|bA (v:=aq a) O O (kk:=3) O dZ (λg1=>wZ rg<|bA (v:=aq b) O O (kk:=3) O dZ (λg2=>wZ rg<|aT bN dH (kk:=3) O (λg3=>asZ .niface O<|aU<|ac<|ar (aZ 2 O) bb dZ bH O O (v:=aq a) O<|ac<|clZ O<|da h λr r1 r2 h=>mvZ (.tuple [.bool r,ak r1,ak r2]) O<|ac<|au (v:=.bool r) O O O<|ac<|au (v:=ak r1) O O O<|ac<|au (v:=ak r2) O O O<|asZ (.bool r) O<|asZ (ak r1) O<|asZ (ak r2) O<|aU<|ac<|ar (aZ 3 O) bb dZ bH O O (v:=aq b) O<|ac<|clZ O<|da h λr3 r4 r5 h=>mvZ (.tuple [.bool r3,ak r4,ak r5]) O<|ac<|au (v:=.bool r3) O O O<|ac<|au (v:=ak r4) O O O<|ac<|au (v:=ak r5) O O O<|asZ (.bool r3) O<|asZ (ak r4) O<|asZ (ak r5) O<|nZ<|qZ<|ah<|mvZ (ak r4) O<|ac<|aK bk O<|ac<|bJ O O<|nZ<|cZ h O (λhb h=>?_) (λhb h=>?_))))
 ·exact ah<|ac<|bC oL bN mq lR bb (ps:=[]) O O (v:=.agg [.bool false,.nil,.nil]) O<|ac<|cp (by rw[gQ];trivial) (v:=iZ 8) O<|ac<|ay (aZ 4 O) bb dZ O (w:=.agg [.bool false,.nil,.nil]) O O O (v:=.agg [.bool false,.nil,.nil]) O aQ<|asZ (.iface 41<|iZ 8) O<|aE<|be (aZ 4 O) bb dZ bH O O (v:=.agg [.bool false,.nil,.nil]) O<|aB (v:=.iface 41 (iZ 8)) O<|aJ<|aO hrg (VW.tupL<|vl' (VW.aggL<|vZ<|vl' (VW.nilL)<|vl' (VW.nilL)<|vn)<|vZ<|vn)<|hQ _ _ h
 exact kZ<|ah<|mvZ (.bool r) O<|mvZ (.bool r3) O<|ac<|AM td4 O O<|mvZ (ak r1) O<|mvZ (ak r5) O<|ac<|clZ O<|eH h λr6 h=>mvZ (ak r2) O<|mvZ (ak r4) O<|ac<|clZ O<|eH h λr7 h=>ac<|clZ O<|dk h λr8 h=>ac<|ay (aZ 4 O) bb dZ O (w:=aq r8) O O O (v:=aq r8) O aQ<|asZ .niface O<|aE<|be (aZ 4 O) bb dZ bH O O (v:=aq r8) O<|aB (v:=.niface) O<|aJ<|aO hrg (VW.tupL<|vZ<|vZ<|vn)<|hQ _ _ h
theorem Ai {err:Option Int} {code:Int} {Q:Bool->Prop} (h:tc err code Q) (hQ:∀r1,Q r1->R (AV.bool r1) S) :
  Ctr prog 13 [aW 41 err,iZ code] S R:=by
 refine aG func13 rfl ntmps13 results13 krZ (λrg hrg=>?_)
 refine ah<|asZ (.bool false) O<|aU<|mvZ (aW 41 err) O<|ac<|Cz gQ Jb H9 O<|mvZ (.tuple [iZ (Option.getD err 0),.bool (Option.isSome err)]) O<|ac<|au (v:=iZ (Option.getD err 0)) O O O<|ac<|au (v:=.bool (Option.isSome err)) O O O<|asZ (iZ<|Option.getD err 0) O<|asZ (.bool<|Option.isSome err) O<|aU<|mvZ (.bool<|Option.isSome err) O<|mvZ (.bool<|Option.isSome err) O<|gtZ h O O (λhb h=>?_) (λhb h=>?_)
 ·exact mvZ (iZ<|Option.getD err 0) O<|gTZ O O hb<|mvZ (iZ code) O<|gTZ O O hb<|ac<|bJ O O<|ac<|aS O hb (v:=.bool ((Option.getD err 0) == code)) O (asZ (.bool<|(Option.getD err 0) == code) O<|aE<|gv1 hrg<|hQ _ h)
 exact gFZ O O hb O<|gFZ O O hb O<|ac<|aY O hb (v:=.bool false) O<|asZ (.bool false) O<|aE<|gv1 hrg<|hQ _ h
end Go.Proofs.YtcmagbhiioheeaaGreat
