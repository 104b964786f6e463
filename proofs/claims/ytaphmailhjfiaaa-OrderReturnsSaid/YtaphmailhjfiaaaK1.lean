/- Walks of functions. Conditions: none. -/
import Derived.Test.YtaphmailhjfiaaaWa
import Derived.Test.YtaphmailhjfiaaaGgTy
import Derived.Test.YtaphmailhjfiaaaGd
import Derived.Test.YtaphmailhjfiaaaGf
namespace Go.Proofs.Ytaphmailhjfiaaa
open Go.Gg
set_option maxRecDepth 100000
variable {S:St} {R:AV->St->Prop}
theorem f_ {x:Int} {Q:Int->Prop} (h:dz x Q) (hQ:∀r1,Q r1->R (iZ r1) S) :
  Ctr Try.prog 55 [AV.int .u32 x] S R:=by
 refine aJ Try.func55 rfl Try.ntmps55 Try.results55 krZ (λrg hrg=>?_)
 refine ac<|asZ (iZ 0) O<|nZ<|jnZ h (λy=>aw [(0,.int .u32 y.1),(2,iZ y.2)]) (λy=>stL S rg []) (λy h=>?_) (λ_ h=>?_)
 ·obtain⟨x1,n⟩:=y
  refine jnZ h (λy=>aw [(0,.int .u32 y.1),(2,iZ y.2)]) (λy=>stL S rg []) (λy h=>?_) (λ_ h=>?_)
  ·obtain⟨x2,n1⟩:=y
   exact ac<|mvZ (iZ n1) O<|mvZ (.int .u32 x2) O<|aa<|bd dD td5 O<|tkZ h (λhg h=>wZ rg<|tk td9 krZ O hg<|aa<|bd td5 td3 O<|tkZ h (λhg1 h=>aa<|aq O O hg1<|stZ h (λn2 hs h=>wZ rg<|aW (v:=iZ n2) (by subst hs;rfl)<|aI<|gv1 hrg<|hQ _ h)))
  refine ac<|mvZ (.int .u32 x1) O<|aa<|e7 O O<|nZ<|cZ h O (λhb h=>?_) (λhb h=>?_)
  ·exact ac<|mvZ (.int .u32 x1) O<|aa<|eN O O dZ<|asZ (.int .u32<|x1 / 2^(Int.toNat 8)) O<|nZ<|rZ<|mvZ (iZ n) O<|tkZ h (λhg2 h=>aa<|aq O O hg2<|asZ (iZ<|n+8) O<|nZ<|⟨((x1 / 2^(Int.toNat 8)),(n+8)),(am (fZ<|fZ<|fn)<|sn),h⟩)
  exact kZ<|⟨(x1,n),(am (fZ<|fZ<|fn)<|sn),h⟩
 refine ac<|mvZ (.int .u32 x) O<|aa<|e7 O O<|nZ<|cZ h O (λhb1 h=>?_) (λhb1 h=>?_)
 ·exact ac<|mvZ (.int .u32 x) O<|aa<|eN O O dZ<|asZ (.int .u32<|x / 2^(Int.toNat 16)) O<|nZ<|rZ<|asZ (iZ 16) O<|nZ<|⟨((x / 2^(Int.toNat 16)),16),(am (fZ<|fZ<|fn)<|sn),h⟩
 exact kZ<|⟨(x,0),(am (fZ<|fZ<|fn)<|sn),h⟩
theorem kR {a:List Int} {Q:Int->Prop} (h:gy a Q) (hQ:∀r1,Q r1->R (iZ r1) S) :
  Ctr Try.prog 45 [aj a] S R:=by
 refine aJ Try.func45 rfl Try.ntmps45 Try.results45 krZ (λrg hrg=>?_)
 refine ac<|asZ (iZ 0) O<|nZ<|qZ<|ac<|mvZ (aj a) O<|aa<|aR be O<|tkZ h (λhg h=>aa<|aH O O hg<|asZ (iZ<|(a.length:Int)-1) O<|nZ<|bZ<|lpZ h (λy=>aw [(0,aj a),(3,iZ y)]) (λy=>stL S rg []) (am (fZ<|fZ<|fn)<|sn) (λi _ h=>qZ<|ac<|mvZ (iZ i) O<|aa<|e7 O O<|nZ<|cZ h O (λhb h=>?_) (λhb h=>?_)))
 ·refine kZ<|qZ<|bZ<|ac<|mvZ (aj a) O<|mvZ (iZ i) O<|tkZ h (λhg1 h=>aa<|bq be bv dZ (λ_=>O) O O hg1<|aa<|aY bv fR O O (v:=.int .u32 (at' a i)) O<|aa<|eZ O O<|nZ<|cZ h O (λhb1 h=>?_) (λhb1 h=>?_))
  ·exact ac<|mvZ (iZ i) O<|tkZ h (λhg2 h=>aa<|ir O O hg2<|mvZ (aj a) O<|mvZ (iZ i) O<|tkZ h (λhg3 h=>aa<|bq be bv dZ (λ_=>O) O O hg3<|aa<|aY bv fR O O (v:=.int .u32 (at' a i)) O<|aa<|clZ O<|f_ h λr h=>tkZ h (λhg4 h=>aa<|aq O O hg4<|asZ (iZ<|(32*i)+r) O<|aI<|gv1 hrg<|hQ _ h)))
  exact kZ<|rZ<|mvZ (iZ i) O<|tkZ h (λhg5 h=>aa<|aH O O hg5<|asZ (iZ<|i-1) O<|nZ<|⟨(i-1),(am (fZ<|fZ<|fn)<|sn),h⟩)
 exact xsZ<|ac<|asZ (iZ 0) O<|aI<|gv1 hrg<|hQ _ h
theorem bh {a:List Int} {Q:List Int->Prop} (h:bm a Q) (hQ:∀r1,Q r1->R (aj r1) S) :
  Ctr Try.prog 50 [aj a] S R:=by
 refine aJ Try.func50 rfl Try.ntmps50 Try.results50 krZ (λrg hrg=>?_)
 refine ac<|asZ .nil O<|ba<|mvZ (aj a) O<|aa<|aR be O<|asZ (iZ (a.length:Int)) O<|nZ<|jnZ h (λy=>aw [(0,aj a),(3,iZ y)]) (λy=>stL S rg []) (λn h=>?_) (λ_ h=>?_)
 ·refine qZ<|ac<|mvZ (iZ n) O<|aa<|ct O O<|nZ<|cZ h O (λhb h=>?_) (λhb h=>?_)
  ·exact ac<|asZ .nil O<|aI<|aE (v:=.nil) O<|aX<|bi hrg (VW.nilL)<|hQ _ h
  exact kZ<|ac<|wZ rg<|cn be kM gZ (es:=[]) O (kk:=1) O O O O O O (λg1=>mvZ (aj a) O<|mvZ (iZ n) O<|tkZ h (λhg h=>aa<|j4 be bv dZ (λ_=>O) O (l:=0) (h:=n) O O hg<|tkZ h (λhg1 h=>wZ rg<|kN be ku kM gZ (es:=[]) (xs:=(cU a 0 n)) (enc:=AV.int .u32) (aZ 20 O) lzZ (O) (kk:=1) O O (λ_=>O) (λ_=>O) hg1 O (λ_=>bB) (λg2=>asZ (.sl 1 rg 20 g2 0<|([]++(cU a 0 n)).length) O<|aI<|aE (v:=.sl 1 rg 20 g2 0 (([]++(cU a 0 n)).length)) O (aX<|bE (k:=20) (xs:=List.map (AV.int .u32) ([]++(cU a 0 n))) O (v':=aj ([]++(cU a 0 n))) (bp O) (goZ hrg<|hQ _ h))))))
 refine bZ<|lpZ h (λy=>aw [(0,aj a),(3,iZ y)]) (λy=>stL S rg []) (am (fZ<|fZ<|fn)<|sn) (λn1 _ h=>qZ<|ac<|mvZ (iZ n1) O<|aa<|df O O<|mvZ (.bool<|decide<|0<n1) O<|gtZ h O O (λhb1 h=>?_) (λhb1 h=>?_))
 ·refine mvZ (aj a) O<|gTZ O O hb1<|mvZ (iZ n1) O<|gTZ O O hb1<|tkZ h (λhg2 h=>aa<|aH O O hg2<|gTZ O O hb1<|tkZ h (λhg3 h=>aa<|bq be bv dZ (λ_=>O) O O hg3<|gTZ O O hb1<|aa<|aY bv fR O O (v:=.int .u32 (at' a<|n1-1)) O (gTZ O O hb1<|aa<|ct O O<|aa<|az O hb1 (v:=.bool ((at' a<|n1-1) == 0)) O (nZ<|cZ h O (λhb2 h=>?_) (λhb2 h=>?_)))))
  ·exact kZ<|bZ<|rZ<|mvZ (iZ n1) O<|tkZ h (λhg4 h=>aa<|aH O O hg4<|asZ (iZ<|n1-1) O<|nZ<|⟨(n1-1),(am (fZ<|fZ<|fn)<|sn),h⟩)
  exact xsZ<|⟨n1,(am (fZ<|fZ<|fn)<|sn),h⟩
 exact gFZ O O hb1 O<|gFZ O O hb1 O<|gFZ O O hb1 O<|gFZ O O hb1 O<|gFZ O O hb1 O<|aa<|aA O hb1 (v:=.bool false) O<|nZ<|cFZ O O<|xsZ<|⟨n1,(am (fZ<|fZ<|fn)<|sn),h⟩
theorem eC {a:List Int} {b:List Int} {Q:Int->Prop} (h:cC a b Q) (hQ:∀r1,Q r1->R (iZ r1) S) :
  Ctr Try.prog 40 [aj a,aj b] S R:=by
 refine aJ Try.func40 rfl Try.ntmps40 Try.results40 krZ (λrg hrg=>?_)
 refine ac<|asZ (iZ 0) O<|ba<|mvZ (aj a) O<|aa<|clZ O<|bh h λa1 h=>mvZ (aj b) O<|aa<|clZ O<|bh h λb1 h=>asZ (aj a1) O<|asZ (aj b1) O<|nZ<|qZ<|ac<|mvZ (aj a1) O<|aa<|aR be O<|mvZ (aj b1) O<|aa<|aR be O<|aa<|eZ O O<|nZ<|cZ h O (λhb h=>?_) (λhb h=>?_)
 ·refine qZ<|ac<|mvZ (aj a1) O<|aa<|aR be O<|mvZ (aj b1) O<|aa<|aR be O<|aa<|aQ O O<|nZ<|cZ h O (λhb1 h=>?_) (λhb1 h=>?_)
  ·exact ac<|asZ (iZ<|-1) O<|aI<|gv1 hrg<|hQ _ h
  exact kZ<|ac<|asZ (iZ 1) O<|aI<|gv1 hrg<|hQ _ h
 refine kZ<|qZ<|ac<|mvZ (aj a1) O<|aa<|aR be O<|tkZ h (λhg h=>aa<|aH O O hg<|asZ (iZ<|(a1.length:Int)-1) O<|nZ<|bZ<|lpZ h (λy=>aw [(0,aj a1),(1,aj b1),(5,iZ y)]) (λy=>stL S rg []) (am (fZ<|fZ<|fZ<|fn)<|sn) (λi _ h=>qZ<|ac<|mvZ (iZ i) O<|aa<|e7 O O<|nZ<|cZ h O (λhb2 h=>?_) (λhb2 h=>?_)))
 ·refine kZ<|qZ<|bZ<|qZ<|qZ<|tkZ h (λhg1 h=>tkZ h (λhg2 h=>Vc.drawn' bY rg (λ_=>fi) krZ<|dP O O<|ah (v:=aj a1) O<|dP O O<|ah (v:=iZ i) O<|dP O O<|bq be bv dZ (λ_=>O) O O hg1<|dP O O<|aY bv fR O O (v:=.int .u32 (at' a1 i)) O<|dP O O<|ah (v:=aj b1) O<|dP O O<|ah (v:=iZ i) O<|dP O O<|bq be bv dZ (λ_=>O) O O hg2<|dP O O<|aY bv fR O O (v:=.int .u32 (at' b1 i)) O<|dP O O<|aQ O O<|dN<|cZ h O (λhb3 h=>?_) (λhb3 h=>?_)))
  ·exact ac<|asZ (iZ<|-1) O<|aI<|gv1 hrg<|hQ _ h
  refine kZ<|qZ<|tkZ h (λhg3 h=>tkZ h (λhg4 h=>Vc.drawn' bY rg (λ_=>fi) krZ<|dP O O<|ah (v:=aj a1) O<|dP O O<|ah (v:=iZ i) O<|dP O O<|bq be bv dZ (λ_=>O) O O hg3<|dP O O<|aY bv fR O O (v:=.int .u32 (at' a1 i)) O<|dP O O<|ah (v:=aj b1) O<|dP O O<|ah (v:=iZ i) O<|dP O O<|bq be bv dZ (λ_=>O) O O hg4<|dP O O<|aY bv fR O O (v:=.int .u32 (at' b1 i)) O<|dP O O<|df O O<|dN<|cZ h O (λhb4 h=>?_) (λhb4 h=>?_)))
  ·exact ac<|asZ (iZ 1) O<|aI<|gv1 hrg<|hQ _ h
  exact kZ<|rZ<|mvZ (iZ i) O<|tkZ h (λhg5 h=>aa<|aH O O hg5<|asZ (iZ<|i-1) O<|nZ<|⟨(i-1),(am (fZ<|fZ<|fZ<|fn)<|sn),h⟩)
 exact xsZ<|ac<|asZ (iZ 0) O<|aI<|gv1 hrg<|hQ _ h
theorem i8 {n:Int} {Q:List Int->Prop} (h:gd n Q) (hQ:∀r1,Q r1->R (aj r1) S) :
  Ctr Try.prog 48 [iZ n] S R:=by
 refine aJ Try.func48 rfl Try.ntmps48 Try.results48 krZ (λrg hrg=>?_)
 refine ac<|asZ .nil O<|nZ<|qZ<|ac<|mvZ (iZ n) O<|aa<|nB O O<|nZ<|cZ h O (λhb h=>?_) (λhb h=>?_)
 ·exact ac<|asZ .nil O<|aI<|aE (v:=.nil) O<|aX<|bi hrg (VW.nilL)<|hQ _ h
 exact kZ<|ac<|mvZ (iZ n) O<|aa<|bd td3 dD O<|mvZ (iZ n) O<|aa<|eN O O dZ<|aa<|bd td3 dD O<|wZ rg<|cn be kM gZ (es:=[.int .u32 (IntKind.wrap .u32 n),.int .u32 (IntKind.wrap .u32<|n / 2^(Int.toNat 32))]) O (kk:=1) O O O O O O (λg1=>fT (bF (k:=10) (xs:=List.map (AV.int .u32) [(IntKind.wrap .u32 n),(IntKind.wrap .u32<|n / 2^(Int.toNat 32))]) O (es:=[(10,aj [(IntKind.wrap .u32 n),(IntKind.wrap .u32<|n / 2^(Int.toNat 32))])]) (fc (bp O)<|fn) (m:=[]) (sn)) (aa<|clZ O<|bh h λr h=>asZ (aj r) O<|aI<|gv1 hrg<|hQ _ h))
theorem j_ {a:List Int} {b:Int} {Q:List Int->Int->Prop} (h:eA a b Q) (hQ:∀r1 r2,Q r1 r2->R (.tuple [aj r1,AV.int .u32 r2]) S) :
  Ctr Try.prog 56 [aj a,AV.int .u32 b] S R:=by
 refine aJ Try.func56 rfl Try.ntmps56 Try.results56 krZ (λrg hrg=>?_)
 refine ac<|asZ .nil O<|asZ (.int .u32 0) O<|ba<|mvZ (aj a) O<|aa<|aR be O<|tkZ h (λhg h=>wZ rg<|d_ be ku kM (enc:=AV.int .u32) (z':=0) gZ (kk:=1) O O O hg (λg1=>asZ (.sl 1 rg 11 g1 0<|Int.toNat (a.length:Int)) O<|ba<|asZ (.int .u64 0) O<|nZ<|qZ<|ac<|mvZ (aj a) O<|aa<|aR be O<|tkZ h (λhg1 h=>aa<|aH O O hg1<|asZ (iZ<|(a.length:Int)-1) O<|nZ<|bZ<|lpZ h (λy=>aw [(0,aj a),(1,.int .u32 b),(6,.sl 1 rg 11 g1 0 y.2.2.length),(7,.int .u64 y.1),(8,iZ y.2.1)]) (λy=>stL S rg [(11,.arr 1 (List.map (AV.int .u32) y.2.2),g1)]) (am (fZ<|fZ<|fc (VW.slen lzZ)<|fZ<|fZ<|fn)<|sc O<|sn) (λy _ h=>?_))))
 obtain⟨rest,i,out⟩:=y
 refine qZ<|ac<|mvZ (iZ i) O<|aa<|e7 O O<|nZ<|cZ h O (λhb h=>?_) (λhb h=>?_)
 ·exact kZ<|qZ<|bZ<|ac<|mvZ (.int .u64 rest) O<|aa<|nA O O dZ<|mvZ (aj a) O<|mvZ (iZ i) O<|tkZ h (λhg2 h=>aa<|bq be bv dZ (λ_=>O) O O hg2<|aa<|aY bv fR O O (v:=.int .u32 (at' a i)) O<|aa<|bd dD eg O<|aa<|rq O O<|stZ h (λrest1 hs h=>wZ rg<|aW (v:=.int .u64 rest1) (by subst hs;rfl)<|ba<|mvZ (.sl 1 rg 11 g1 0 out.length) O<|mvZ (iZ i) O<|mvZ (.int .u64 rest1) O<|mvZ (.int .u32 b) O<|aa<|bd dD eg O<|tkZ h (λhg3 h=>aa<|uT O O hg3<|aa<|bd eg dD O<|tkZ h (λhi h=>aa<|ar be bv dZ O O hi<|aa<|aL (aZ 11 O) bv dZ (x':=(IntKind.wrap .u32<|IntKind.wrap .u64<|Int.tdiv rest1<|IntKind.wrap .u64 b)) (λ_=>O) O O (aK hi lzZ) O O bB<|nZ<|rZ<|mvZ (.int .u64 rest1) O<|mvZ (.int .u32 b) O<|aa<|bd dD eg O<|tkZ h (λhg4 h=>aa<|uS O O hg4<|asZ (.int .u64<|Int.tmod rest1<|IntKind.wrap .u64 b) O<|nZ<|rZ<|mvZ (iZ i) O<|tkZ h (λhg5 h=>aa<|aH O O hg5<|asZ (iZ<|i-1) O<|nZ<|⟨((Int.tmod rest1<|IntKind.wrap .u64 b),(i-1),(set' out i<|IntKind.wrap .u32<|IntKind.wrap .u64<|Int.tdiv rest1<|IntKind.wrap .u64 b)),(am (fZ<|fZ<|fc (VW.slen lzZ)<|fZ<|fZ<|fn)<|sc O<|sn),h⟩))))))
 exact xsZ<|ac<|mvZ (.sl 1 rg 11 g1 0 out.length) O<|fT (bF (k:=11) (xs:=List.map (AV.int .u32) out) O (es:=[(7,.int .u64 rest),(39,aj out)]) (fZ<|fc (bp O)<|fn) (m:=[]) (sn)) (aa<|clZ O<|bh h λr h=>mvZ (.int .u64 rest) O<|aa<|bd eg dD O<|asZ (aj r) O<|asZ (.int .u32<|IntKind.wrap .u32 rest) O<|aI<|aE (v:=aj r) O<|aE (v:=.int .u32 (IntKind.wrap .u32 rest)) O<|aX<|bi hrg (VW.tupL<|vZ<|vZ<|vn)<|hQ _ _ h)
theorem fY {x:Int} {Q:Int->Prop} (h:cN x Q) (hQ:∀r1,Q r1->R (iZ r1) S) :
  Ctr Try.prog 57 [AV.int .u32 x] S R:=by
 refine aJ Try.func57 rfl Try.ntmps57 Try.results57 krZ (λrg hrg=>?_)
 exact ac<|asZ (iZ 0) O<|ba<|mvZ (.int .u32 x) O<|aa<|clZ O<|f_ h λr h=>tkZ h (λhg h=>aa<|aH O O hg<|asZ (iZ<|32-r) O<|aI<|gv1 hrg<|hQ _ h)
theorem kP {a:List Int} {n:Int} {Q:List Int->Prop} (h:cL a n Q) (hQ:∀r1,Q r1->R (aj r1) S) :
  Ctr Try.prog 58 [aj a,iZ n] S R:=by
 refine aJ Try.func58 rfl Try.ntmps58 Try.results58 krZ (λrg hrg=>?_)
 refine ac<|asZ .nil O<|ba<|mvZ (aj a) O<|aa<|aR be O<|tkZ h (λhg h=>aa<|aq O O hg<|tkZ h (λhg1 h=>wZ rg<|d_ be ku kM (enc:=AV.int .u32) (z':=0) gZ (kk:=1) O O O hg1 (λg1=>asZ (.sl 1 rg 12 g1 0<|Int.toNat<|(a.length:Int)+1) O<|nZ<|qZ<|ac<|mvZ (aj a) O<|aa<|aR be O<|mvZ (iZ 0) O<|nZ<|bZ<|lpZ h (λy=>aw [(1,iZ n),(5,.sl 1 rg 12 g1 0 y.2.length),(13,aj a),(14,iZ (a.length:Int)),(15,iZ y.1)]) (λy=>stL S rg [(12,.arr 1 (List.map (AV.int .u32) y.2),g1)]) (am (fZ<|fc (VW.slen lzZ)<|fZ<|fZ<|fZ<|fn)<|sc O<|sn) (λy _ h=>?_))))
 obtain⟨x,out⟩:=y
 refine ac<|aa<|aQ O O<|nZ<|qZ<|cZ h O (λhb h=>?_) (λhb h=>?_)
 ·refine kZ<|qZ<|bZ<|ac<|mvZ (iZ x) O<|tkZ h (λhg2 h=>aa<|bq be bv dZ (λ_=>O) O O hg2<|aa<|aY bv fR O O (v:=.int .u32 (at' a x)) O<|asZ (iZ x) O<|asZ (.int .u32<|at' a x) O<|ba<|mvZ (.int .u32<|at' a x) O<|aa<|bd dD eg O<|mvZ (iZ n) O<|tkZ h (λhg3 h=>aa<|nA O O hg3<|stZ h (λy1 hs h=>wZ rg<|aW (v:=.int .u64 y1) (by subst hs;rfl)<|ba<|mvZ (.sl 1 rg 12 g1 0 out.length) O<|mvZ (iZ x) O<|tkZ h (λhi h=>aa<|ar be bv dZ O O hi<|aa<|aD (aZ 12 O) bv fR O (aK hi lzZ) O (v:=.int .u32 (at' out x)) O<|mvZ (.int .u64 y1) O<|aa<|bd eg dD O<|aa<|rq O O<|tkZ h (λhi1 h=>aa<|ar be bv dZ O O hi1<|aa<|aL (aZ 12 O) bv dZ (x':=(bits .or .u32 (at' out x)<|IntKind.wrap .u32 y1)) (λ_=>O) O O (aK hi1 lzZ) O O bB<|nZ<|rZ<|mvZ (.sl 1 rg 12 g1 0 out.length) O<|mvZ (iZ x) O<|tkZ h (λhg4 h=>aa<|aq O O hg4<|mvZ (.int .u64 y1) O<|aa<|eN O O dZ<|aa<|bd eg dD O<|tkZ h (λhi2 h=>aa<|ar be bv dZ O O hi2<|aa<|aL (aZ 12 O) bv dZ (x':=(IntKind.wrap .u32<|y1 / 2^(Int.toNat 32))) (λ_=>O) O O (aK hi2 lzZ) O O bB<|nZ<|rZ<|tkZ h (λhg5 h=>aa<|aq O O hg5<|mvZ (iZ<|x+1) O<|nZ ?_))))))))
  exact⟨((x+1),(set' (set' out x<|bits .or .u32 (at' out x)<|IntKind.wrap .u32 y1) (x+1)<|IntKind.wrap .u32<|y1 / 2^(Int.toNat 32))),(am (fZ<|fc (VW.slen lzZ)<|fZ<|fZ<|fZ<|fn)<|sc O<|sn),h⟩
 exact xsZ<|ac<|mvZ (.sl 1 rg 12 g1 0 out.length) O<|asZ (.sl 1 rg 12 g1 0 out.length) O<|aI<|aE (v:=.sl 1 rg 12 g1 0 out.length) O<|aX<|bE (k:=12) (xs:=List.map (AV.int .u32) out) O (v':=aj out) (bp O)<|goZ hrg<|hQ _ h
theorem kf {a:List Int} {n:Int} (q k:Nat) {Q:List Int->Prop} {S:St} {R:AV->St->Prop} (h:cL a n Q) (hQ:∀r1 g,Q r1->R (.sl 1 q k g 0 r1.length) (S.set q k (.arr 1 (List.map (AV.int .u32) r1)) g)) :
  Ctr Try.prog 58 [aj a,iZ n] S R:=by
 unfold cL at h
 refine aJ Try.func58 rfl Try.ntmps58 Try.results58 krZ (λrg hrg=>?_)
 refine ac<|asZ .nil O<|ba<|mvZ (aj a) O<|aa<|aR be O<|tkZ h (λhg h=>aa<|aq O O hg<|tkZ h (λhg1 h=>wZ rg<|d_ be ku kM (enc:=AV.int .u32) (z':=0) gZ (kk:=1) O O O hg1 (λg1=>asZ (.sl 1 rg 12 g1 0<|Int.toNat<|(a.length:Int)+1) O<|nZ<|qZ<|ac<|mvZ (aj a) O<|aa<|aR be O<|mvZ (iZ 0) O<|nZ<|bZ<|lpZ h (λy=>aw [(1,iZ n),(5,.sl 1 rg 12 g1 0 y.2.length),(13,aj a),(14,iZ (a.length:Int)),(15,iZ y.1)]) (λy=>stL S rg [(12,.arr 1 (List.map (AV.int .u32) y.2),g1)]) (am (fZ<|fc (VW.slen lzZ)<|fZ<|fZ<|fZ<|fn)<|sc O<|sn) (λy _ h=>?_))))
 obtain⟨x,out⟩:=y
 refine ac<|aa<|aQ O O<|nZ<|qZ<|cZ h O (λhb h=>?_) (λhb h=>?_)
 ·refine kZ<|qZ<|bZ<|ac<|mvZ (iZ x) O<|tkZ h (λhg2 h=>aa<|bq be bv dZ (λ_=>O) O O hg2<|aa<|aY bv fR O O (v:=.int .u32 (at' a x)) O<|asZ (iZ x) O<|asZ (.int .u32<|at' a x) O<|ba<|mvZ (.int .u32<|at' a x) O<|aa<|bd dD eg O<|mvZ (iZ n) O<|tkZ h (λhg3 h=>aa<|nA O O hg3<|stZ h (λy1 hs h=>wZ rg<|aW (v:=.int .u64 y1) (by subst hs;rfl)<|ba<|mvZ (.sl 1 rg 12 g1 0 out.length) O<|mvZ (iZ x) O<|tkZ h (λhi h=>aa<|ar be bv dZ O O hi<|aa<|aD (aZ 12 O) bv fR O (aK hi lzZ) O (v:=.int .u32 (at' out x)) O<|mvZ (.int .u64 y1) O<|aa<|bd eg dD O<|aa<|rq O O<|tkZ h (λhi1 h=>aa<|ar be bv dZ O O hi1<|aa<|aL (aZ 12 O) bv dZ (x':=(bits .or .u32 (at' out x)<|IntKind.wrap .u32 y1)) (λ_=>O) O O (aK hi1 lzZ) O O bB<|nZ<|rZ<|mvZ (.sl 1 rg 12 g1 0 out.length) O<|mvZ (iZ x) O<|tkZ h (λhg4 h=>aa<|aq O O hg4<|mvZ (.int .u64 y1) O<|aa<|eN O O dZ<|aa<|bd eg dD O<|tkZ h (λhi2 h=>aa<|ar be bv dZ O O hi2<|aa<|aL (aZ 12 O) bv dZ (x':=(IntKind.wrap .u32<|y1 / 2^(Int.toNat 32))) (λ_=>O) O O (aK hi2 lzZ) O O bB<|nZ<|rZ<|tkZ h (λhg5 h=>aa<|aq O O hg5<|mvZ (iZ<|x+1) O<|nZ ?_))))))))
  exact⟨((x+1),(set' (set' out x<|bits .or .u32 (at' out x)<|IntKind.wrap .u32 y1) (x+1)<|IntKind.wrap .u32<|y1 / 2^(Int.toNat 32))),(am (fZ<|fc (VW.slen lzZ)<|fZ<|fZ<|fZ<|fn)<|sc O<|sn),h⟩
 refine xsZ<|ac<|mvZ (.sl 1 rg 12 g1 0 out.length) O<|asZ (.sl 1 rg 12 g1 0 out.length) O<|aI<|aE (v:=.sl 1 rg 12 g1 0 out.length) O<|aX ?_
 show cT _ (.sl 1 rg 12 g1 0 out.length) _
 exact nH q k hrg O (λg'=>hQ _ g' h)
theorem bX {a:List Int} {i:Int} {Q:Int->Prop} (h:bQ a i Q) (hQ:∀r1,Q r1->R (AV.int .u64 r1) S) :
  Ctr Try.prog 51 [aj a,iZ i] S R:=by
 refine aJ Try.func51 rfl Try.ntmps51 Try.results51 krZ (λrg hrg=>?_)
 refine ac<|asZ (.int .u64 0) O<|nZ<|qZ<|ac<|mvZ (iZ i) O<|mvZ (aj a) O<|aa<|aR be O<|aa<|aQ O O<|nZ<|cZ h O (λhb h=>?_) (λhb h=>?_)
 ·exact ac<|mvZ (aj a) O<|mvZ (iZ i) O<|tkZ h (λhg h=>aa<|bq be bv dZ (λ_=>O) O O hg<|aa<|aY bv fR O O (v:=.int .u32 (at' a i)) O<|aa<|bd dD eg O<|asZ (.int .u64<|IntKind.wrap .u64<|at' a i) O<|aI<|gv1 hrg<|hQ _ h)
 exact kZ<|ac<|asZ (.int .u64 0) O<|aI<|gv1 hrg<|hQ _ h
theorem kO {u:List Int} {uo:Nat} {ul:Nat} {v:List Int} {n:Int} {q0 k0 g0:Nat} {Q:List Int->Bool->Prop} (h:gv u uo ul v n Q) (hQ:∀r1 r2,Q r1 r2->R (AV.bool r2) (stX S [(q0,k0,.arr 1 (List.map (AV.int .u32) r1),g0)])) :
  Ctr Try.prog 59 [.sl 1 q0 k0 g0 uo ul,aj v,AV.int .u64 n] (stX S [(q0,k0,.arr 1 (List.map (AV.int .u32) u),g0)]) R:=by
 refine aJ Try.func59 rfl Try.ntmps59 Try.results59 krZ (λrg hrg=>?_)
 have hdx:DX [(q0,k0,.arr 1 (List.map (AV.int .u32) u),g0)]:=dx1
 have hfr:=λX' e=>bO (S:=S) (rg:=rg) (X:=[(q0,k0,.arr 1 (List.map (AV.int .u32) u),g0)]) (X':=X') e hrg
 have hne0:=aN hdx hrg 0 rfl
 refine ac<|asZ (.bool false) O<|ba<|asZ (.int .u64 0) O<|asZ (.int .u64 0) O<|nZ<|qZ<|ac<|mvZ (.sl 1 q0 k0 g0 uo ul) O<|aa<|gu be O<|mvZ (iZ 0) O<|nZ<|bZ<|lpZ h (λy=>aw [(0,.sl 1 q0 k0 g0 uo ul),(1,aj v),(2,.int .u64 n),(7,.int .u64 y.1),(8,.int .u64 y.2.1),(12,iZ (ul:Int)),(13,iZ y.2.2.1)]) (λy=>stL (stX S [(q0,k0,.arr 1 (List.map (AV.int .u32) y.2.2.2),g0)]) rg []) (am (aB<|fZ<|fZ<|fZ<|fn)<|sn) (λy _ h=>?_)
 obtain⟨carry,borrow,x,u1⟩:=y
 refine ac<|aa<|aQ O O<|nZ<|qZ<|cZ h O (λhb h=>?_) (λhb h=>?_)
 ·refine kZ<|qZ<|bZ<|ac<|mvZ (iZ x) O<|asZ (iZ x) O<|ba<|mvZ (.int .u64 carry) O<|mvZ (.int .u64 n) O<|mvZ (aj v) O<|mvZ (iZ x) O<|aa<|clZ O<|bX h λr h=>aa<|qM O O<|aa<|j6 O O<|stZ h (λcarry1 hs h=>wZ rg<|aW (v:=.int .u64 carry1) (by subst hs;rfl)<|ba<|mvZ (.sl 1 q0 k0 g0 uo ul) O<|mvZ (iZ x) O<|tkZ h (λhi h=>aa<|lV be bv dZ O O hi<|tkZ h (λhg h=>aa<|aD (atX hne0 hdx 0 O) bv fR O (hg) O (v:=.int .u32 (at' u1<|(uo:Int)+x)) O (aa<|bd dD eg O<|mvZ (.int .u64 carry1) O<|aa<|bd eg dD O<|aa<|bd dD eg O<|aa<|mC O O<|mvZ (.int .u64 borrow) O<|aa<|mC O O<|stZ h (λd hs1 h=>wZ rg<|aW (v:=.int .u64 d) (by subst hs1;rfl)<|ba<|mvZ (.sl 1 q0 k0 g0 uo ul) O<|mvZ (iZ x) O<|mvZ (.int .u64 d) O<|aa<|bd eg dD O<|tkZ h (λhi1 h=>aa<|lV be bv dZ O O hi1<|tkZ h (λhg1 h=>aa<|aL (atX hne0 hdx 0 O) bv dZ (x':=(IntKind.wrap .u32 d)) (λ_=>O) O O (hg1) O O (cE hne0 hdx 0 O O)<|ba<|mvZ (.int .u64 d) O<|aa<|eN O O dZ<|asZ (.int .u64<|d / 2^(Int.toNat 63)) O<|nZ<|rZ<|mvZ (.int .u64 carry1) O<|aa<|eN O O dZ<|asZ (.int .u64<|carry1 / 2^(Int.toNat 32)) O<|nZ<|rZ<|tkZ h (λhg2 h=>aa<|aq O O hg2<|mvZ (iZ<|x+1) O<|nZ ?_))))))))
  exact⟨((carry1 / 2^(Int.toNat 32)),(d / 2^(Int.toNat 63)),(x+1),(set' u1 ((uo:Int)+x)<|IntKind.wrap .u32 d)),(am (aB<|fZ<|fZ<|fZ<|fn)<|sn),h⟩
 exact xsZ<|ac<|mvZ (.int .u64 borrow) O<|aa<|ct O O<|asZ (.bool<|borrow == 1) O<|aI<|gv1 (hfr _ O)<|hQ _ _ h
theorem kQ {u:List Int} {uo:Nat} {ul:Nat} {v:List Int} {q0 k0 g0:Nat} {Q:List Int->Prop} (h:gx u uo ul v Q) (hQ:∀r1,Q r1->R (.tuple []) (stX S [(q0,k0,.arr 1 (List.map (AV.int .u32) r1),g0)])) :
  Ctr Try.prog 60 [.sl 1 q0 k0 g0 uo ul,aj v] (stX S [(q0,k0,.arr 1 (List.map (AV.int .u32) u),g0)]) R:=by
 refine aJ Try.func60 rfl Try.ntmps60 Try.results60 krZ (λrg hrg=>?_)
 have hdx:DX [(q0,k0,.arr 1 (List.map (AV.int .u32) u),g0)]:=dx1
 have hfr:=λX' e=>bO (S:=S) (rg:=rg) (X:=[(q0,k0,.arr 1 (List.map (AV.int .u32) u),g0)]) (X':=X') e hrg
 have hne0:=aN hdx hrg 0 rfl
 refine ac<|asZ (.int .u64 0) O<|ba<|mvZ (.sl 1 q0 k0 g0 uo ul) O<|aa<|gu be O<|mvZ (iZ 0) O<|nZ<|bZ<|lpZ h (λy=>aw [(0,.sl 1 q0 k0 g0 uo ul),(1,aj v),(4,.int .u64 y.1),(7,iZ (ul:Int)),(8,iZ y.2.1)]) (λy=>stL (stX S [(q0,k0,.arr 1 (List.map (AV.int .u32) y.2.2),g0)]) rg []) (am (aB<|fZ<|fn)<|sn) (λy _ h=>?_)
 obtain⟨carry,x,u1⟩:=y
 refine ac<|aa<|aQ O O<|nZ<|qZ<|cZ h O (λhb h=>?_) (λhb h=>?_)
 ·refine kZ<|qZ<|bZ<|ac<|mvZ (iZ x) O<|asZ (iZ x) O<|nZ<|qZ<|tkZ h (λhi h=>tkZ h (λhg h=>?_))
  obtain⟨r,hc,h⟩:=h
  refine Vc.drawn' bY rg (jp [(8,pc (.int .u64 r))]) krZ<|dP O O<|ah (v:=.int .u64 carry) O<|dP O O<|ah (v:=.sl 1 q0 k0 g0 uo ul) O<|dP O O<|ah (v:=iZ x) O<|dP O O<|lV be bv dZ O O hi<|dL (E:=([(q0,k0)],[])) O O (by simp) (cfn) (aD (atX hne0 hdx 0 O) bv fR O (hg) O (v:=.int .u32 (at' u1<|(uo:Int)+x)) O (dP O O<|bd dD eg O<|dP O O<|ah (v:=aj v) O<|dP O O<|ah (v:=iZ x) O<|dC (vs:=[aj v,iZ x]) O (vZ<|vZ<|vn) (λ_=>bX hc (λ_ hr=>⟨by rw[hr],rfl⟩)) O<|dP O O<|j6 O O<|dP O O<|j6 O O<|dP O O<|aW (v:=.int .u64 (IntKind.wrap .u64<|carry+(IntKind.wrap .u64<|(IntKind.wrap .u64<|at' u1<|(uo:Int)+x)+r))) O (dN<|ac<|mvZ (.sl 1 q0 k0 g0 uo ul) O<|mvZ (iZ x) O<|mvZ (.int .u64<|IntKind.wrap .u64<|carry+(IntKind.wrap .u64<|(IntKind.wrap .u64<|at' u1<|(uo:Int)+x)+r)) O (aa<|bd eg dD O<|tkZ h (λhi1 h=>aa<|lV be bv dZ O O hi1<|tkZ h (λhg1 h=>aa<|aL (atX hne0 hdx 0 O) bv dZ (x':=(IntKind.wrap .u32<|IntKind.wrap .u64<|carry+(IntKind.wrap .u64<|(IntKind.wrap .u64<|at' u1<|(uo:Int)+x)+r))) (λ_=>O) O O (hg1) O O (cE hne0 hdx 0 O O)<|nZ<|rZ<|mvZ (.int .u64<|IntKind.wrap .u64<|carry+(IntKind.wrap .u64<|(IntKind.wrap .u64<|at' u1<|(uo:Int)+x)+r)) O (aa<|eN O O dZ<|stZ h (λcarry1 hs h=>?_))))))))
  exact wZ rg<|aW (v:=.int .u64 carry1) (by subst hs;rfl)<|nZ<|rZ<|tkZ h (λhg2 h=>aa<|aq O O hg2<|mvZ (iZ<|x+1) O<|nZ<|⟨(carry1,(x+1),(set' u1 ((uo:Int)+x)<|IntKind.wrap .u32<|IntKind.wrap .u64<|carry+(IntKind.wrap .u64<|(IntKind.wrap .u64<|at' u1<|(uo:Int)+x)+r))),(am (aB<|fZ<|fn)<|sn),h⟩)
 exact xsZ<|gv0 (hfr _ O)<|hQ _ h
theorem ke {a:List Int} {n:Int} {Q:List Int->Prop} (h:eB a n Q) (hQ:∀r1,Q r1->R (aj r1) S) :
  Ctr Try.prog 61 [aj a,iZ n] S R:=by
 refine aJ Try.func61 rfl Try.ntmps61 Try.results61 krZ (λrg hrg=>?_)
 refine ac<|asZ .nil O<|ba<|mvZ (aj a) O<|aa<|aR be O<|tkZ h (λhg h=>wZ rg<|d_ be ku kM (enc:=AV.int .u32) (z':=0) gZ (kk:=1) O O O hg (λg1=>asZ (.sl 1 rg 9 g1 0<|Int.toNat (a.length:Int)) O<|nZ<|qZ<|ac<|mvZ (aj a) O<|aa<|aR be O<|mvZ (iZ 0) O<|nZ<|bZ<|lpZ h (λy=>aw [(0,aj a),(1,iZ n),(5,.sl 1 rg 9 g1 0 y.2.length),(11,iZ (a.length:Int)),(12,iZ y.1)]) (λy=>stL S rg [(9,.arr 1 (List.map (AV.int .u32) y.2),g1)]) (am (fZ<|fZ<|fc (VW.slen lzZ)<|fZ<|fZ<|fn)<|sc O<|sn) (λy _ h=>?_)))
 obtain⟨x,out⟩:=y
 refine ac<|aa<|aQ O O<|nZ<|qZ<|cZ h O (λhb h=>?_) (λhb h=>?_)
 ·exact kZ<|qZ<|bZ<|ac<|mvZ (iZ x) O<|asZ (iZ x) O<|nZ<|rZ<|mvZ (.sl 1 rg 9 g1 0 out.length) O<|mvZ (iZ x) O<|mvZ (aj a) O<|mvZ (iZ x) O<|aa<|clZ O<|bX h λr h=>mvZ (aj a) O<|mvZ (iZ x) O<|tkZ h (λhg1 h=>aa<|aq O O hg1<|aa<|clZ O<|bX h λr1 h=>aa<|nA O O dZ<|aa<|rq O O<|mvZ (iZ n) O<|tkZ h (λhg2 h=>aa<|eN O O hg2<|aa<|bd eg dD O<|tkZ h (λhi h=>aa<|ar be bv dZ O O hi<|aa<|aL (aZ 9 O) bv dZ (x':=(IntKind.wrap .u32<|(bits .or .u64 r<|IntKind.wrap .u64<|r1*2^(Int.toNat 32)) / 2^(Int.toNat n))) (λ_=>O) O O (aK hi lzZ) O O bB<|nZ<|rZ<|tkZ h (λhg3 h=>aa<|aq O O hg3<|mvZ (iZ<|x+1) O<|nZ<|⟨((x+1),(set' out x<|IntKind.wrap .u32<|(bits .or .u64 r<|IntKind.wrap .u64<|r1*2^(Int.toNat 32)) / 2^(Int.toNat n))),(am (fZ<|fZ<|fc (VW.slen lzZ)<|fZ<|fZ<|fn)<|sc O<|sn),h⟩))))
 exact xsZ<|ac<|mvZ (.sl 1 rg 9 g1 0 out.length) O<|asZ (.sl 1 rg 9 g1 0 out.length) O<|aI<|aE (v:=.sl 1 rg 9 g1 0 out.length) O<|aX<|bE (k:=9) (xs:=List.map (AV.int .u32) out) O (v':=aj out) (bp O)<|goZ hrg<|hQ _ h
theorem fX {a:List Int} {b:List Int} {Q:List Int->List Int->Option Int->Prop} (h:eo a b Q) (hQ:∀r1 r2 r3,Q r1 r2 r3->R (.tuple [aj r1,aj r2,a_ 65 r3]) S) :
  Ctr Try.prog 47 [aj a,aj b] S R:=by
 refine aJ Try.func47 rfl Try.ntmps47 Try.results47 krZ (λrg hrg=>?_)
 refine ac<|asZ .nil O<|asZ .nil O<|asZ .niface O<|ba<|mvZ (aj a) O<|aa<|clZ O<|bh h λa1 h=>mvZ (aj b) O<|aa<|clZ O<|bh h λb1 h=>asZ (aj a1) O<|asZ (aj b1) O<|nZ<|qZ<|ac<|mvZ (aj b1) O<|aa<|aR be O<|aa<|ct O O<|nZ<|cZ h O (λhb h=>?_) (λhb h=>?_)
 ·exact ac<|aa<|c5 (by rw[iX];trivial) (v:=iZ 8) O<|asZ .nil O<|asZ .nil O<|asZ (.iface 65<|iZ 8) O<|aI<|aE (v:=.nil) O<|aE (v:=.nil) O<|aE (v:=.iface 65 (iZ 8)) O<|aX<|bi hrg (VW.tupL<|vl' (VW.nilL)<|vl' (VW.nilL)<|vZ<|vn)<|hQ _ _ _ h
 refine kZ<|qZ<|ac<|mvZ (aj a1) O<|mvZ (aj b1) O<|aa<|clZ O<|eC h λr h=>aa<|aQ O O<|nZ<|cZ h O (λhb1 h=>?_) (λhb1 h=>?_)
 ·exact ac<|mvZ (aj a1) O<|asZ .nil O<|asZ (aj a1) O<|asZ .niface O<|aI<|aE (v:=.nil) O<|aE (v:=aj a1) O<|aE (v:=.niface) O<|aX<|bi hrg (VW.tupL<|vl' (VW.nilL)<|vZ<|vZ<|vn)<|hQ _ _ _ h
 refine kZ<|qZ<|ac<|mvZ (aj b1) O<|aa<|aR be O<|aa<|ct O O<|nZ<|cZ h O (λhb2 h=>?_) (λhb2 h=>?_)
 ·exact ac<|mvZ (aj a1) O<|mvZ (aj b1) O<|tkZ h (λhg h=>aa<|bq be bv dZ (λ_=>O) O O hg<|aa<|aY bv fR O O (v:=.int .u32 (at' b1 0)) O<|aa<|clZ O<|j_ h λr1 r2 h=>mvZ (.tuple [aj r1,.int .u32 r2]) O<|aa<|au (v:=aj r1) O O O<|aa<|au (v:=.int .u32 r2) O O O<|asZ (aj r1) O<|asZ (.int .u32 r2) O<|ba<|mvZ (aj r1) O<|mvZ (.int .u32 r2) O<|aa<|bd dD td3 O<|aa<|clZ O<|i8 h λr3 h=>asZ (aj r1) O<|asZ (aj r3) O<|asZ .niface O<|aI<|aE (v:=aj r1) O<|aE (v:=aj r3) O<|aE (v:=.niface) O<|aX<|bi hrg (VW.tupL<|vZ<|vZ<|vZ<|vn)<|hQ _ _ _ h)
 refine kZ<|ac<|mvZ (aj b1) O<|mvZ (aj b1) O<|aa<|aR be O<|tkZ h (λhg1 h=>aa<|aH O O hg1<|tkZ h (λhg2 h=>aa<|bq be bv dZ (λ_=>O) O O hg2<|aa<|aY bv fR O O (v:=.int .u32 (at' b1<|(b1.length:Int)-1)) O (aa<|clZ O<|fY h λn h=>asZ (iZ n) O<|ba<|mvZ (aj b1) O<|mvZ (iZ n) O<|aa<|clZ O<|kP h λr4 h=>mvZ (aj b1) O<|aa<|aR be O<|tkZ h (λhg3 h=>aa<|j4 be bv dZ (λ_=>O) O (l:=0) (h:=(b1.length:Int)) O O hg3<|stZ h (λv hs h=>wZ rg<|aW (v:=aj v) (by subst hs;rfl)<|ba<|mvZ (aj a1) O<|mvZ (iZ n) O<|aa<|clZ O<|kf rg 61 h λu g1 h=>bT bB<|asZ (.sl 1 rg 61 g1 0 u.length) O<|nZ<|qZ<|tkZ h (λhg4 h=>tkZ h (λhg5 h=>tkZ h (λhg6 h=>tkZ h (λhg7 h=>Vc.drawn' bY rg (λ_=>fi) krZ<|dP O O<|ah (v:=aj v) O<|dP O O<|ah (v:=aj v) O<|dP O O<|aR be O<|dP O O<|aH O O hg4<|dP O O<|bq be bv dZ (λ_=>O) O O hg5<|dP O O<|aY bv fR O O (v:=.int .u32 (at' v<|(v.length:Int)-1)) O (dP O O<|bd dD eg O<|dP O O<|ah (v:=aj v) O<|dP O O<|ah (v:=aj v) O<|dP O O<|aR be O<|dP O O<|aH O O hg6<|dP O O<|bq be bv dZ (λ_=>O) O O hg7 ?_))))))))))
 refine dP O O<|aY bv fR O O (v:=.int .u32 (at' v<|(v.length:Int)-2)) O (dP O O<|bd dD eg O<|dP O O<|aW (v:=.int .u64 (IntKind.wrap .u64<|at' v<|(v.length:Int)-1)) O (dP O O<|aW (v:=.int .u64 (IntKind.wrap .u64<|at' v<|(v.length:Int)-2)) O (dN<|ac<|mvZ (.sl 1 rg 61 g1 0 u.length) O<|aa<|gu be O<|mvZ (aj v) O<|aa<|aR be O<|tkZ h (λhg8 h=>aa<|aH O O hg8<|tkZ h (λhg9 h=>wZ rg<|d_ be ku kM (enc:=AV.int .u32) (z':=0) gZ (kk:=1) O O O hg9 (λg2=>asZ (.sl 1 rg 81 g2 0<|Int.toNat<|(u.length:Int)-(v.length:Int)) O<|nZ<|qZ<|ac<|mvZ (.sl 1 rg 81 g2 0<|Int.toNat<|(u.length:Int)-(v.length:Int)) O<|aa<|gu be O<|tkZ h (λhg10 h=>aa<|aH O O hg10<|stZ h (λj hs1 h=>wZ rg<|aW (v:=iZ j) (by subst hs1;rfl)<|nZ<|bZ<|lgZ h (g1,g2) (λy=>aw [(4,.sl 1 rg 81 y.2.2 0 y.1.2.2.length),(9,iZ n),(10,aj v),(11,.sl 1 rg 61 y.2.1 0 y.1.2.1.length),(12,.int .u64 (IntKind.wrap .u64<|at' v<|(v.length:Int)-1)),(13,.int .u64 (IntKind.wrap .u64<|at' v<|(v.length:Int)-2)),(14,iZ y.1.1)]) (λy=>stL S rg [(61,.arr 1 (List.map (AV.int .u32) y.1.2.1),y.2.1),(81,.arr 1 (List.map (AV.int .u32) y.1.2.2),y.2.2)]) (am (fc (VW.slen lzZ)<|aB<|fZ<|fZ<|fn)<|sc O<|sc O<|sn) (λy _ h=>?_)))))))))
 obtain⟨⟨j1,u1,q⟩,⟨g3,g4⟩⟩:=y
 refine qZ<|ac<|mvZ (iZ j1) O<|aa<|e7 O O<|nZ<|cZ h O (λhb3 h=>?_) (λhb3 h=>?_)
 ·refine kZ<|qZ<|bZ<|qZ<|tkZ h (λhg11 h=>tkZ h (λhi h=>tkZ h (λhg12 h=>tkZ h (λhg13 h=>tkZ h (λhi1 h=>Vc.drawn' bY rg (λ_=>fi) krZ<|dP O O<|ah (v:=.sl 1 rg 61 g3 0 u1.length) O<|dP O O<|ah (v:=iZ j1) O<|dP O O<|ah (v:=aj v) O<|dP O O<|aR be O<|dP O O<|aq O O hg11<|dP O O<|ar be bv dZ O O hi<|dL (E:=([(rg,61)],[])) O O (by simp) (cfn) (aD (aZ 61 O) bv fR O (aK hi lzZ) O (v:=.int .u32 (at' u1<|j1+(v.length:Int))) O (dP O O<|bd dD eg O<|dP O O<|nA O O dZ<|dP O O<|ah (v:=.sl 1 rg 61 g3 0 u1.length) O<|dP O O<|ah (v:=iZ j1) O<|dP O O<|ah (v:=aj v) O<|dP O O<|aR be O<|dP O O<|aq O O hg12<|dP O O<|aH O O hg13<|dP O O<|ar be bv dZ O O hi1<|dL (E:=([(rg,61)],[])) O O (by simp) (cfa (by simp[bb])<|cfn) (aD (aZ 61 O) bv fR O (aK hi1 lzZ) O (v:=.int .u32 (at' u1<|(j1+(v.length:Int))-1)) O (dP O O<|bd dD eg O<|dP O O<|rq O O<|dP O O<|aW (v:=.int .u64 (bits .or .u64 (IntKind.wrap .u64<|(IntKind.wrap .u64<|at' u1<|j1+(v.length:Int))*2^(Int.toNat 32)) (IntKind.wrap .u64<|at' u1<|(j1+(v.length:Int))-1))) O (dN<|qZ<|tkZ h (λhg14 h=>tkZ h (λhg15 h=>Vc.drawn' bY rg (λ_=>fi) krZ ?_))))))))))))
  refine dP O O<|ah (v:=.int .u64 (bits .or .u64 (IntKind.wrap .u64<|(IntKind.wrap .u64<|at' u1<|j1+(v.length:Int))*2^(Int.toNat 32)) (IntKind.wrap .u64<|at' u1<|(j1+(v.length:Int))-1))) O (dP O O<|ah (v:=.int .u64 (IntKind.wrap .u64<|at' v<|(v.length:Int)-1)) O (dP O O<|uT O O hg14<|dP O O<|ah (v:=.int .u64 (bits .or .u64 (IntKind.wrap .u64<|(IntKind.wrap .u64<|at' u1<|j1+(v.length:Int))*2^(Int.toNat 32)) (IntKind.wrap .u64<|at' u1<|(j1+(v.length:Int))-1))) O (dP O O<|ah (v:=.int .u64 (IntKind.wrap .u64<|at' v<|(v.length:Int)-1)) O (dP O O<|uS O O hg15<|dP O O<|aW (v:=.int .u64 (IntKind.wrap .u64<|Int.tdiv (bits .or .u64 (IntKind.wrap .u64<|(IntKind.wrap .u64<|at' u1<|j1+(v.length:Int))*2^(Int.toNat 32)) (IntKind.wrap .u64<|at' u1<|(j1+(v.length:Int))-1)) (IntKind.wrap .u64<|at' v<|(v.length:Int)-1))) O (dP O O<|aW (v:=.int .u64 (Int.tmod (bits .or .u64 (IntKind.wrap .u64<|(IntKind.wrap .u64<|at' u1<|j1+(v.length:Int))*2^(Int.toNat 32)) (IntKind.wrap .u64<|at' u1<|(j1+(v.length:Int))-1)) (IntKind.wrap .u64<|at' v<|(v.length:Int)-1))) O (dN ?_))))))
  refine jgZ (γ:=Nat×Nat) h (λy=>aw [(4,.sl 1 rg 81 y.2.2 0 q.length),(9,iZ n),(10,aj v),(11,.sl 1 rg 61 y.2.1 0 u1.length),(12,.int .u64 (IntKind.wrap .u64<|at' v<|(v.length:Int)-1)),(13,.int .u64 (IntKind.wrap .u64<|at' v<|(v.length:Int)-2)),(14,iZ j1),(16,.int .u64 y.1)]) (λy=>stL S rg [(61,.arr 1 (List.map (AV.int .u32) u1),y.2.1),(81,.arr 1 (List.map (AV.int .u32) q),y.2.2)]) (λy h=>?_) (λ_ h=>?_)
  ·obtain⟨guess,⟨g5,g6⟩⟩:=y
   refine jgZ (γ:=Nat×Nat) h (λy=>aw [(4,.sl 1 rg 81 y.2.2 0 q.length),(9,iZ n),(10,aj v),(11,.sl 1 rg 61 y.2.1 0 y.1.2.length),(12,.int .u64 (IntKind.wrap .u64<|at' v<|(v.length:Int)-1)),(13,.int .u64 (IntKind.wrap .u64<|at' v<|(v.length:Int)-2)),(14,iZ j1),(16,.int .u64 y.1.1)]) (λy=>stL S rg [(61,.arr 1 (List.map (AV.int .u32) y.1.2),y.2.1),(81,.arr 1 (List.map (AV.int .u32) q),y.2.2)]) (λy h=>?_) (λ_ h=>?_)
   ·obtain⟨⟨guess1,u2⟩,⟨g7,g8⟩⟩:=y
    exact rZ<|mvZ (.sl 1 rg 81 g8 0 q.length) O<|mvZ (iZ j1) O<|mvZ (.int .u64 guess1) O<|aa<|bd eg dD O<|tkZ h (λhi2 h=>aa<|ar be bv dZ O O hi2<|aa<|aL (aZ 81 O) bv dZ (x':=(IntKind.wrap .u32 guess1)) (λ_=>O) O O (aK hi2 lzZ) O O bB<|nZ<|rZ<|mvZ (iZ j1) O<|tkZ h (λhg16 h=>aa<|aH O O hg16<|asZ (iZ<|j1-1) O<|nZ<|⟨(((j1-1),u2,(set' q j1<|IntKind.wrap .u32 guess1)),(g7,g8)),(am (fc (VW.slen lzZ)<|aB<|fZ<|fZ<|fn)<|sc O<|sc O<|sn),h⟩))
   refine ac<|mvZ (.sl 1 rg 61 g5 0 u1.length) O<|mvZ (iZ j1) O<|mvZ (iZ j1) O<|mvZ (aj v) O<|aa<|aR be O<|tkZ h (λhg17 h=>aa<|aq O O hg17<|tkZ h (λhg18 h=>aa<|aq O O hg18<|tkZ h (λhsl h=>aa<|o9 be bv dZ O (l:=j1) (h:=((j1+(v.length:Int))+1)) O O hsl (mvZ (aj v) O<|mvZ (.int .u64 guess) O<|aa<|clZ O<|dw (np<|aZ 61 O)<|kO h λu3 r5 h=>bT bB<|tkZ h (λhl h=>nZ<|cZ h O (λhb4 h=>?_) (λhb4 h=>?_))))))
   ·exact ac<|mvZ (.int .u64 guess) O<|aa<|mC O O<|asZ (.int .u64<|IntKind.wrap .u64<|guess-1) O<|nZ<|rZ<|mvZ (.sl 1 rg 61 g5 0 u1.length) O<|mvZ (iZ j1) O<|mvZ (iZ j1) O<|mvZ (aj v) O<|aa<|aR be O<|tkZ h (λhg19 h=>aa<|aq O O hg19<|tkZ h (λhg20 h=>aa<|aq O O hg20<|tkZ h (λhsl1 h=>aa<|o9 be bv dZ O (l:=j1) (h:=((j1+(v.length:Int))+1)) O O hsl1 (mvZ (aj v) O<|aa<|clZ O<|dw (np<|aZ 61 O)<|kQ h λu4 h=>bT bB<|tkZ h (λhl1 h=>nZ<|⟨(((IntKind.wrap .u64<|guess-1),u4),(g5,g6)),(am (fZ<|fZ<|fZ<|fc (VW.slen lzZ)<|aB<|fn)<|sc O<|sc O<|sn),h⟩)))))
   exact kZ<|⟨((guess,u3),(g5,g6)),(am (fZ<|fZ<|fZ<|fc (VW.slen lzZ)<|aB<|fn)<|sc O<|sc O<|sn),h⟩
  refine bZ<|lgZ h (g3,g4) (λy=>aw [(4,.sl 1 rg 81 y.2.2 0 q.length),(9,iZ n),(10,aj v),(11,.sl 1 rg 61 y.2.1 0 u1.length),(12,.int .u64 (IntKind.wrap .u64<|at' v<|(v.length:Int)-1)),(13,.int .u64 (IntKind.wrap .u64<|at' v<|(v.length:Int)-2)),(14,iZ j1),(16,.int .u64 y.1.1),(17,.int .u64 y.1.2)]) (λy=>stL S rg [(61,.arr 1 (List.map (AV.int .u32) u1),y.2.1),(81,.arr 1 (List.map (AV.int .u32) q),y.2.2)]) (am (aB<|aB<|fZ<|fn)<|sc O<|sc O<|sn) (λy _ h=>?_)
  obtain⟨⟨guess2,rest⟩,⟨g9,g10⟩⟩:=y
  refine jgZ (γ:=Nat×Nat) h (λy=>aw [(4,.sl 1 rg 81 y.2.2 0 q.length),(9,iZ n),(10,aj v),(11,.sl 1 rg 61 y.2.1 0 u1.length),(12,.int .u64 (IntKind.wrap .u64<|at' v<|(v.length:Int)-1)),(13,.int .u64 (IntKind.wrap .u64<|at' v<|(v.length:Int)-2)),(14,iZ j1),(16,.int .u64 guess2),(17,.int .u64 rest)]) (λy=>stL S rg [(61,.arr 1 (List.map (AV.int .u32) u1),y.2.1),(81,.arr 1 (List.map (AV.int .u32) q),y.2.2)]) (λy h=>?_) (λ_ h=>?_)
  ·obtain⟨_,⟨g11,g12⟩⟩:=y
   refine bZ<|ac<|mvZ (.int .u64 guess2) O<|aa<|mC O O<|asZ (.int .u64<|IntKind.wrap .u64<|guess2-1) O<|ba<|mvZ (.int .u64 rest) O<|mvZ (.int .u64<|IntKind.wrap .u64<|at' v<|(v.length:Int)-1) O<|aa<|j6 O O<|stZ h (λrest1 hs2 h=>wZ rg<|aW (v:=.int .u64 rest1) (by subst hs2;rfl)<|ba<|mvZ (.int .u64 rest1) O<|aa<|e7 O O<|nZ<|cZ h O (λhb5 h=>?_) (λhb5 h=>?_))
   ·exact xnZ O<|mO<|⟨((IntKind.wrap .u64<|guess2-1),(g11,g12)),(am (aB<|aB<|fn)<|sc O<|sc O<|sn),h⟩
   exact kZ<|⟨(((IntKind.wrap .u64<|guess2-1),rest1),(g11,g12)),(am (aB<|aB<|fZ<|fn)<|sc O<|sc O<|sn),h⟩
  refine ac<|mvZ (.int .u64 guess2) O<|aa<|e7 O O<|mvZ (.bool<|decide<|4294967296<=guess2) O<|gfZ h O O (λhb6 h=>?_) (λhb6 h=>?_)
  ·refine mvZ (.int .u64 guess2) O<|gTZ O O hb6<|mvZ (.int .u64<|IntKind.wrap .u64<|at' v<|(v.length:Int)-2) O<|gTZ O O hb6<|aa<|qM O O<|gTZ O O hb6<|mvZ (.int .u64 rest) O<|gTZ O O hb6<|aa<|nA O O dZ<|gTZ O O hb6<|mvZ (.sl 1 rg 61 g9 0 u1.length) O<|gTZ O O hb6<|mvZ (iZ j1) O<|gTZ O O hb6<|mvZ (aj v) O<|gTZ O O hb6<|aa<|aR be O<|gTZ O O hb6<|tkZ h (λhg21 h=>aa<|aq O O hg21<|gTZ O O hb6<|tkZ h (λhg22 h=>aa<|aH O O hg22<|gTZ O O hb6<|tkZ h (λhi3 h=>aa<|ar be bv dZ O O hi3<|gTZ O O hb6<|aa<|aD (aZ 61 O) bv fR O (aK hi3 lzZ) O (v:=.int .u32 (at' u1<|(j1+(v.length:Int))-2)) O (gTZ O O hb6<|aa<|bd dD eg O<|gTZ O O hb6<|aa<|rq O O<|gTZ O O hb6<|aa<|df O O<|aa<|aA O hb6 (v:=.bool (decide<|(bits .or .u64 (IntKind.wrap .u64<|rest*2^(Int.toNat 32))<|IntKind.wrap .u64<|at' u1<|(j1+(v.length:Int))-2)<(IntKind.wrap .u64<|guess2*(IntKind.wrap .u64<|at' v<|(v.length:Int)-2)))) O (nZ<|cZ h O (λhb7 h=>?_) (λhb7 h=>?_))))))
   ·exact kZ<|⟨((),(g9,g10)),(am (aB<|aB<|fZ<|fn)<|sc O<|sc O<|sn),h⟩
   exact xsZ<|⟨(guess2,(g9,g10)),(am (aB<|aB<|fn)<|sc O<|sc O<|sn),h⟩
  exact gFZ O O hb6 O<|gFZ O O hb6 O<|gFZ O O hb6 O<|gFZ O O hb6 O<|gFZ O O hb6 O<|gFZ O O hb6 O<|gFZ O O hb6 O<|gFZ O O hb6 O<|gFZ O O hb6 O<|gFZ O O hb6 O<|gFZ O O hb6 O<|gFZ O O hb6 O<|gFZ O O hb6 O<|gFZ O O hb6 O<|gFZ O O hb6 O<|aa<|az O hb6 (v:=.bool true) O<|nZ<|cTZ O O<|kZ<|⟨((),(g9,g10)),(am (aB<|aB<|fZ<|fn)<|sc O<|sc O<|sn),h⟩
 exact xsZ<|ac<|mvZ (.sl 1 rg 81 g4 0 q.length) O<|fT (bF (k:=81) (xs:=List.map (AV.int .u32) q) O (es:=[(9,iZ n),(11,.sl 1 rg 61 g3 0 u1.length),(169,aj q)]) (fZ<|fc (jL O)<|fc (bp O)<|fn) (m:=[(61,.arr 1 (List.map (AV.int .u32) u1),g3)]) (sc O<|sn)) (aa<|clZ O<|bh h λq1 h=>mvZ (.sl 1 rg 61 g3 0 u1.length) O<|mvZ (iZ n) O<|fT (bF (k:=61) (xs:=List.map (AV.int .u32) u1) O (es:=[(170,aj q1),(171,aj u1),(172,iZ n)]) (fZ<|fc (bp O)<|fZ<|fn) (m:=[]) (sn)) (aa<|clZ O<|ke h λr6 h=>aa<|clZ O<|bh h λr7 h=>asZ (aj q1) O<|asZ (aj r7) O<|asZ .niface O<|aI<|aE (v:=aj q1) O<|aE (v:=aj r7) O<|aE (v:=.niface) O<|aX<|bi hrg (VW.tupL<|vZ<|vZ<|vZ<|vn)<|hQ _ _ _ h))
theorem iK {a:List Int} {b:List Int} {Q:List Int->Prop} (h:fF a b Q) (hQ:∀r1,Q r1->R (aj r1) S) :
  Ctr Try.prog 46 [aj a,aj b] S R:=by
 refine aJ Try.func46 rfl Try.ntmps46 Try.results46 krZ (λrg hrg=>?_)
 refine ac<|asZ .nil O<|ba<|mvZ (aj a) O<|aa<|clZ O<|bh h λa1 h=>mvZ (aj b) O<|aa<|clZ O<|bh h λb1 h=>asZ (aj a1) O<|asZ (aj b1) O<|nZ<|qZ<|bZ<|lpZ h (λy=>aw [(0,aj y.1),(1,aj y.2)]) (λy=>stL S rg []) (am (fZ<|fZ<|fn)<|sn) (λy _ h=>?_)
 obtain⟨a2,b2⟩:=y
 refine qZ<|ac<|mvZ (aj b2) O<|aa<|aR be O<|aa<|df O O<|nZ<|cZ h O (λhb h=>?_) (λhb h=>?_)
 ·exact kZ<|bZ<|ac<|mvZ (aj a2) O<|mvZ (aj b2) O<|aa<|clZ O<|fX h λr r1 r2 h=>mvZ (.tuple [aj r,aj r1,a_ 65 r2]) O<|aa<|au (v:=aj r) O O O<|aa<|au (v:=aj r1) O O O<|aa<|au (v:=a_ 65 r2) O O O<|asZ (aj r) O<|asZ (aj r1) O<|asZ (a_ 65 r2) O<|nZ<|rZ<|mvZ (aj b2) O<|mvZ (aj r1) O<|asZ (aj b2) O<|asZ (aj r1) O<|nZ<|⟨(b2,r1),(am (fZ<|fZ<|fn)<|sn),h⟩
 exact xsZ<|ac<|mvZ (aj a2) O<|asZ (aj a2) O<|aI<|gv1 hrg<|hQ _ h
theorem dl {a:List Int} {b:List Int} {Q:List Int->Prop} (h:cB a b Q) (hQ:∀r1,Q r1->R (aj r1) S) :
  Ctr Try.prog 38 [aj a,aj b] S R:=by
 refine aJ Try.func38 rfl Try.ntmps38 Try.results38 krZ (λrg hrg=>?_)
 refine ac<|asZ .nil O<|ba<|mvZ (aj a) O<|aa<|aR be O<|mvZ (aj b) O<|aa<|aR be O<|tkZ h (λhg h=>aa<|aq O O hg<|tkZ h (λhg1 h=>wZ rg<|d_ be ku kM (enc:=AV.int .u32) (z':=0) gZ (kk:=1) O O O hg1 (λg1=>asZ (.sl 1 rg 16 g1 0<|Int.toNat<|(a.length:Int)+(b.length:Int)) O (nZ<|qZ<|ac<|mvZ (aj a) O<|aa<|aR be O<|mvZ (iZ 0) O<|nZ<|bZ<|lpZ h (λy=>aw [(1,aj b),(5,.sl 1 rg 16 g1 0 y.2.length),(17,aj a),(18,iZ (a.length:Int)),(19,iZ y.1)]) (λy=>stL S rg [(16,.arr 1 (List.map (AV.int .u32) y.2),g1)]) (am (fZ<|fc (VW.slen lzZ)<|fZ<|fZ<|fZ<|fn)<|sc O<|sn) (λy _ h=>?_)))))
 obtain⟨x,out⟩:=y
 refine ac<|aa<|aQ O O<|nZ<|qZ<|cZ h O (λhb h=>?_) (λhb h=>?_)
 ·refine kZ<|qZ<|bZ<|ac<|mvZ (iZ x) O<|tkZ h (λhg2 h=>aa<|bq be bv dZ (λ_=>O) O O hg2<|aa<|aY bv fR O O (v:=.int .u32 (at' a x)) O<|asZ (iZ x) O<|asZ (.int .u32<|at' a x) O<|ba<|asZ (.int .u64 0) O<|nZ<|qZ<|ac<|mvZ (aj b) O<|aa<|aR be O<|mvZ (iZ 0) O<|nZ<|bZ<|lpZ h (λy=>aw [(1,aj b),(5,.sl 1 rg 16 g1 0 y.2.2.length),(6,iZ x),(7,.int .u32 (at' a x)),(8,.int .u64 y.1),(17,aj a),(18,iZ (a.length:Int)),(19,iZ x),(24,aj b),(25,iZ (b.length:Int)),(26,iZ y.2.1)]) (λy=>stL S rg [(16,.arr 1 (List.map (AV.int .u32) y.2.2),g1)]) (am (aB<|aB<|fZ<|fZ<|fZ<|fn)<|sc O<|sn) (λy _ h=>?_))
  obtain⟨carry,x1,out1⟩:=y
  refine ac<|aa<|aQ O O<|nZ<|qZ<|cZ h O (λhb1 h=>?_) (λhb1 h=>?_)
  ·refine kZ<|qZ<|bZ<|ac<|mvZ (iZ x1) O<|tkZ h (λhg3 h=>aa<|bq be bv dZ (λ_=>O) O O hg3<|aa<|aY bv fR O O (v:=.int .u32 (at' b x1)) O<|asZ (iZ x1) O<|asZ (.int .u32<|at' b x1) O<|ba<|mvZ (.int .u64 carry) O<|mvZ (.int .u32<|at' a x) O<|aa<|bd dD eg O<|mvZ (.int .u32<|at' b x1) O<|aa<|bd dD eg O<|aa<|qM O O<|mvZ (.sl 1 rg 16 g1 0 out1.length) O<|mvZ (iZ x) O<|mvZ (iZ x1) O<|tkZ h (λhg4 h=>aa<|aq O O hg4<|tkZ h (λhi h=>aa<|ar be bv dZ O O hi<|aa<|aD (aZ 16 O) bv fR O (aK hi lzZ) O (v:=.int .u32 (at' out1<|x+x1)) O (aa<|bd dD eg O<|aa<|j6 O O<|aa<|j6 O O<|stZ h (λcarry1 hs h=>wZ rg<|aW (v:=.int .u64 carry1) (by subst hs;rfl)<|ba<|mvZ (.sl 1 rg 16 g1 0 out1.length) O<|mvZ (iZ x) O<|mvZ (iZ x1) O<|tkZ h (λhg5 h=>aa<|aq O O hg5<|mvZ (.int .u64 carry1) O<|aa<|bd eg dD O<|tkZ h (λhi1 h=>aa<|ar be bv dZ O O hi1<|aa<|aL (aZ 16 O) bv dZ (x':=(IntKind.wrap .u32 carry1)) (λ_=>O) O O (aK hi1 lzZ) O O bB<|nZ<|rZ<|mvZ (.int .u64 carry1) O<|aa<|eN O O dZ<|asZ (.int .u64<|carry1 / 2^(Int.toNat 32)) O<|nZ<|rZ<|tkZ h (λhg6 h=>aa<|aq O O hg6<|mvZ (iZ<|x1+1) O<|nZ ?_))))))))
   exact⟨((carry1 / 2^(Int.toNat 32)),(x1+1),(set' out1 (x+x1)<|IntKind.wrap .u32 carry1)),(am (fZ<|fc (VW.slen lzZ)<|aB<|aB<|fZ<|fn)<|sc O<|sn),h⟩
  exact xsZ<|rZ<|mvZ (.sl 1 rg 16 g1 0 out1.length) O<|mvZ (iZ x) O<|mvZ (aj b) O<|aa<|aR be O<|tkZ h (λhg7 h=>aa<|aq O O hg7<|mvZ (.int .u64 carry) O<|aa<|bd eg dD O<|tkZ h (λhi2 h=>aa<|ar be bv dZ O O hi2<|aa<|aL (aZ 16 O) bv dZ (x':=(IntKind.wrap .u32 carry)) (λ_=>O) O O (aK hi2 lzZ) O O bB<|nZ<|rZ<|tkZ h (λhg8 h=>aa<|aq O O hg8<|mvZ (iZ<|x+1) O<|nZ<|⟨((x+1),(set' out1 (x+(b.length:Int))<|IntKind.wrap .u32 carry)),(am (fZ<|fc (VW.slen lzZ)<|fZ<|fZ<|fZ<|fn)<|sc O<|sn),h⟩)))
 exact xsZ<|ac<|mvZ (.sl 1 rg 16 g1 0 out.length) O<|fT (bF (k:=16) (xs:=List.map (AV.int .u32) out) O (es:=[(65,aj out)]) (fc (bp O)<|fn) (m:=[])<|sn)<|aa<|clZ O<|bh h λr h=>asZ (aj r) O<|aI<|gv1 hrg<|hQ _ h
theorem lM {a:List Int} {b:List Int} {Q:List Int->Prop} (h:fH a b Q) (hQ:∀r1,Q r1->R (aj r1) S) :
  Ctr Try.prog 39 [aj a,aj b] S R:=by
 refine aJ Try.func39 rfl Try.ntmps39 Try.results39 krZ (λrg hrg=>?_)
 refine ac<|asZ .nil O<|ba<|mvZ (aj a) O<|aa<|aR be O<|mvZ (aj b) O<|aa<|aR be O<|aa<|uU O O<|tkZ h (λhg h=>aa<|aq O O hg<|tkZ h (λhg1 h=>wZ rg<|d_ be ku kM (enc:=AV.int .u32) (z':=0) gZ (kk:=1) O O O hg1 (λg1=>asZ (.sl 1 rg 14 g1 0<|Int.toNat<|(max (a.length:Int) (b.length:Int))+1) O (ba<|asZ (.int .u64 0) O<|nZ<|qZ<|ac<|mvZ (.sl 1 rg 14 g1 0<|Int.toNat<|(max (a.length:Int) (b.length:Int))+1) O (aa<|gu be O<|mvZ (iZ 0) O<|nZ<|bZ<|lpZ h (λy=>aw [(0,aj a),(1,aj b),(5,.sl 1 rg 14 g1 0 y.2.2.length),(6,.int .u64 y.1),(16,iZ ((Int.toNat<|(max (a.length:Int) (b.length:Int))+1):Int)),(17,iZ y.2.1)]) (λy=>stL S rg [(14,.arr 1 (List.map (AV.int .u32) y.2.2),g1)]) (am (fZ<|fZ<|fc (VW.slen lzZ)<|fZ<|fZ<|fZ<|fn)<|sc O<|sn) (λy _ h=>?_))))))
 obtain⟨carry,x,out⟩:=y
 refine ac<|aa<|aQ O O<|nZ<|qZ<|cZ h O (λhb h=>?_) (λhb h=>?_)
 ·exact kZ<|qZ<|bZ<|ac<|mvZ (iZ x) O<|asZ (iZ x) O<|ba<|mvZ (.int .u64 carry) O<|mvZ (aj a) O<|mvZ (iZ x) O<|aa<|clZ O<|bX h λr h=>mvZ (aj b) O<|mvZ (iZ x) O<|aa<|clZ O<|bX h λr1 h=>aa<|j6 O O<|aa<|j6 O O<|stZ h (λcarry1 hs h=>wZ rg<|aW (v:=.int .u64 carry1) (by subst hs;rfl)<|ba<|mvZ (.sl 1 rg 14 g1 0 out.length) O<|mvZ (iZ x) O<|mvZ (.int .u64 carry1) O<|aa<|bd eg dD O<|tkZ h (λhi h=>aa<|ar be bv dZ O O hi<|aa<|aL (aZ 14 O) bv dZ (x':=(IntKind.wrap .u32 carry1)) (λ_=>O) O O (aK hi lzZ) O O bB<|nZ<|rZ<|mvZ (.int .u64 carry1) O<|aa<|eN O O dZ<|asZ (.int .u64<|carry1 / 2^(Int.toNat 32)) O<|nZ<|rZ<|tkZ h (λhg2 h=>aa<|aq O O hg2<|mvZ (iZ<|x+1) O<|nZ<|⟨((carry1 / 2^(Int.toNat 32)),(x+1),(set' out x<|IntKind.wrap .u32 carry1)),(am (fZ<|fZ<|fc (VW.slen lzZ)<|fZ<|fZ<|fZ<|fn)<|sc O<|sn),h⟩)))
 exact xsZ<|ac<|mvZ (.sl 1 rg 14 g1 0 out.length) O<|fT (bF (k:=14) (xs:=List.map (AV.int .u32) out) O (es:=[(37,aj out)]) (fc (bp O)<|fn) (m:=[])<|sn)<|aa<|clZ O<|bh h λr2 h=>asZ (aj r2) O<|aI<|gv1 hrg<|hQ _ h
theorem iJ {a:List Int} {b:List Int} {Q:List Int->Option Int->Prop} (h:fE a b Q) (hQ:∀r1 r2,Q r1 r2->R (.tuple [aj r1,a_ 65 r2]) S) :
  Ctr Try.prog 41 [aj a,aj b] S R:=by
 refine aJ Try.func41 rfl Try.ntmps41 Try.results41 krZ (λrg hrg=>?_)
 refine ac<|asZ .nil O<|asZ .niface O<|nZ<|qZ<|ac<|mvZ (aj a) O<|mvZ (aj b) O<|aa<|clZ O<|eC h λr h=>aa<|aQ O O<|nZ<|cZ h O (λhb h=>?_) (λhb h=>?_)
 ·exact ac<|aa<|c5 (by rw[iX];trivial) (v:=iZ 3) O<|asZ .nil O<|asZ (.iface 65<|iZ 3) O<|aI<|aE (v:=.nil) O<|aE (v:=.iface 65 (iZ 3)) O<|aX<|bi hrg (VW.tupL<|vl' (VW.nilL)<|vZ<|vn)<|hQ _ _ h
 refine kZ<|ac<|mvZ (aj a) O<|aa<|aR be O<|tkZ h (λhg h=>wZ rg<|d_ be ku kM (enc:=AV.int .u32) (z':=0) gZ (kk:=1) O O O hg (λg1=>asZ (.sl 1 rg 17 g1 0<|Int.toNat (a.length:Int)) O<|ba<|asZ (.int .u64 0) O<|nZ<|qZ<|ac<|mvZ (.sl 1 rg 17 g1 0<|Int.toNat (a.length:Int)) O<|aa<|gu be O<|mvZ (iZ 0) O<|nZ<|bZ<|lpZ h (λy=>aw [(0,aj a),(1,aj b),(6,.sl 1 rg 17 g1 0 y.2.2.length),(7,.int .u64 y.1),(19,iZ ((Int.toNat (a.length:Int)):Int)),(20,iZ y.2.1)]) (λy=>stL S rg [(17,.arr 1 (List.map (AV.int .u32) y.2.2),g1)]) (am (fZ<|fZ<|fc (VW.slen lzZ)<|fZ<|fZ<|fZ<|fn)<|sc O<|sn) (λy _ h=>?_)))
 obtain⟨borrow,x,out⟩:=y
 refine ac<|aa<|aQ O O<|nZ<|qZ<|cZ h O (λhb1 h=>?_) (λhb1 h=>?_)
 ·exact kZ<|qZ<|bZ<|ac<|mvZ (iZ x) O<|asZ (iZ x) O<|ba<|mvZ (aj a) O<|mvZ (iZ x) O<|aa<|clZ O<|bX h λr1 h=>mvZ (aj b) O<|mvZ (iZ x) O<|aa<|clZ O<|bX h λr2 h=>aa<|mC O O<|mvZ (.int .u64 borrow) O<|aa<|mC O O<|stZ h (λd hs h=>wZ rg<|aW (v:=.int .u64 d) (by subst hs;rfl)<|ba<|mvZ (.sl 1 rg 17 g1 0 out.length) O<|mvZ (iZ x) O<|mvZ (.int .u64 d) O<|aa<|bd eg dD O<|tkZ h (λhi h=>aa<|ar be bv dZ O O hi<|aa<|aL (aZ 17 O) bv dZ (x':=(IntKind.wrap .u32 d)) (λ_=>O) O O (aK hi lzZ) O O bB<|nZ<|rZ<|mvZ (.int .u64 d) O<|aa<|eN O O dZ<|asZ (.int .u64<|d / 2^(Int.toNat 63)) O<|nZ<|rZ<|tkZ h (λhg1 h=>aa<|aq O O hg1<|mvZ (iZ<|x+1) O<|nZ<|⟨((d / 2^(Int.toNat 63)),(x+1),(set' out x<|IntKind.wrap .u32 d)),(am (fZ<|fZ<|fc (VW.slen lzZ)<|fZ<|fZ<|fZ<|fn)<|sc O<|sn),h⟩)))
 exact xsZ<|ac<|mvZ (.sl 1 rg 17 g1 0 out.length) O<|fT (bF (k:=17) (xs:=List.map (AV.int .u32) out) O (es:=[(40,aj out)]) (fc (bp O)<|fn) (m:=[])<|sn)<|aa<|clZ O<|bh h λr3 h=>asZ (aj r3) O<|asZ .niface O<|aI<|aE (v:=aj r3) O<|aE (v:=.niface) O<|aX<|bi hrg (VW.tupL<|vZ<|vZ<|vn)<|hQ _ _ h
end Go.Proofs.Ytaphmailhjfiaaa
namespace Go.Proofs.Ytaphmailhjfiaaa
open Go.Gg
set_option maxRecDepth 100000
variable {S:St} {R:AV->St->Prop}
theorem cq {neg:Bool} {num:List Int} {den:List Int} {Q:GRat->Prop} (h:bU neg num den Q) (hQ:∀r1,Q r1->R (aG r1) S) :
  Ctr Try.prog 33 [AV.bool neg,aj num,aj den] S R:=by
 refine aJ Try.func33 rfl Try.ntmps33 Try.results33 krZ (λrg hrg=>?_)
 refine ac<|wZ rg<|b8 iD oc (kk:=3) O (λg1=>nZ<|qZ<|ac<|mvZ (aj num) O<|aa<|clZ O<|kR h λr h=>aa<|ct O O<|nZ<|cZ h O (λhb h=>?_) (λhb h=>?_))
 ·exact ac<|aa<|e8 ra iD tK sM cu (ps:=[]) O O (v:=.agg [.bool false,.nil,.nil]) O<|aa<|bc (aZ 6 O) cu dZ O (w:=.agg [.bool false,.nil,.nil]) O O O (v:=.agg [.bool false,.nil,.nil]) O bB<|aI<|cF (aZ 6 O) cu dZ fj O O (v:=.agg [.bool false,.nil,.nil]) O<|aX<|bi hrg (VW.aggL<|vZ<|vl' (VW.nilL)<|vl' (VW.nilL)<|vn)<|hQ _ h
 exact kZ<|ac<|mvZ (aj num) O<|mvZ (aj den) O<|aa<|clZ O<|iK h λg2 h=>asZ (aj g2) O<|ba<|mvZ (aj num) O<|mvZ (aj g2) O<|aa<|clZ O<|fX h λr1 r2 r3 h=>mvZ (.tuple [aj r1,aj r2,a_ 65 r3]) O<|aa<|au (v:=aj r1) O O O<|aa<|au (v:=aj r2) O O O<|aa<|au (v:=a_ 65 r3) O O O<|asZ (aj r1) O<|asZ (aj r2) O<|asZ (a_ 65 r3) O<|ba<|mvZ (aj den) O<|mvZ (aj g2) O<|aa<|clZ O<|fX h λr4 r5 r6 h=>mvZ (.tuple [aj r4,aj r5,a_ 65 r6]) O<|aa<|au (v:=aj r4) O O O<|aa<|au (v:=aj r5) O O O<|aa<|au (v:=a_ 65 r6) O O O<|asZ (aj r4) O<|asZ (aj r5) O<|asZ (a_ 65 r6) O<|ba<|mvZ (.bool neg) O<|mvZ (aj r1) O<|mvZ (aj r4) O<|aa<|e8 ra iD tK sM cu (ps:=[(0,.bool neg),(1,aj r1),(2,aj r4)]) O O (v:=.agg [.bool neg,aj r1,aj r4]) O (aa<|bc (aZ 6 O) cu dZ O (w:=.agg [.bool neg,aj r1,aj r4]) O O O (v:=.agg [.bool neg,aj r1,aj r4]) O bB<|aI<|cF (aZ 6 O) cu dZ fj O O (v:=.agg [.bool neg,aj r1,aj r4]) O<|aX<|goZ hrg<|hQ _ h)
theorem j3 {n:Int} {Q:List Int->Prop} (h:fV n Q) (hQ:∀r1,Q r1->R (aj r1) S) :
  Ctr Try.prog 34 [iZ n] S R:=by
 refine aJ Try.func34 rfl Try.ntmps34 Try.results34 krZ (λrg hrg=>?_)
 refine ac<|asZ .nil O<|nZ<|qZ<|ac<|mvZ (iZ n) O<|aa<|ct O O<|nZ<|cZ h O (λhb h=>?_) (λhb h=>?_)
 ·exact ac<|wZ rg<|cn be kM gZ (es:=[.int .u32 0,.int .u32 2147483648]) O (kk:=1) O O O O O O (λg1=>asZ (.sl 1 rg 5 g1 0<|[0,2147483648].length) O<|aI<|aE (v:=.sl 1 rg 5 g1 0 ([0,2147483648].length)) O<|aX<|bE (k:=5) (xs:=List.map (AV.int .u32) [0,2147483648]) O (v':=aj [0,2147483648]) (bp O)<|goZ hrg<|hQ _ h)
 exact kZ<|ac<|mvZ (iZ n) O<|mvZ (iZ n) O<|tkZ h (λhg h=>aa<|vB O hg<|aa<|uU O O<|aa<|clZ O<|i8 h λr h=>asZ (aj r) O<|aI<|gv1 hrg<|hQ _ h)
theorem fq {Q:List Int->Prop} (h:eW Q) (hQ:∀r1,Q r1->R (aj r1) S) :
  Ctr Try.prog 35 [] S R:=by
 refine aJ Try.func35 rfl Try.ntmps35 Try.results35 krZ (λrg hrg=>?_)
 exact ac<|asZ .nil O<|ba<|wZ rg<|cn be kM gZ (es:=[.int .u32 1]) O (kk:=1) O O O O O O (λg1=>asZ (.sl 1 rg 1 g1 0<|[1].length) O<|aI<|aE (v:=.sl 1 rg 1 g1 0 ([1].length)) O<|aX<|bE (k:=1) (xs:=List.map (AV.int .u32) [1]) O (v':=aj [1]) (bp O)<|goZ hrg<|hQ _ h)
theorem iH {n:Int} {Q:GRat->Prop} (h:eh n Q) (hQ:∀r1,Q r1->R (aG r1) S) :
  Ctr Try.prog 19 [iZ n] S R:=by
 refine aJ Try.func19 rfl Try.ntmps19 Try.results19 krZ (λrg hrg=>?_)
 exact ac<|wZ rg<|b8 iD oc (kk:=3) O (λg1=>ba<|mvZ (iZ n) O<|aa<|aQ O O<|mvZ (iZ n) O<|aa<|clZ O<|j3 h λr h=>aa<|clZ O<|fq h λr1 h=>aa<|clZ O<|cq h λr2 h=>aa<|bc (aZ 2 O) cu dZ O (w:=aG r2) O O O (v:=aG r2) O bB<|aI<|cF (aZ 2 O) cu dZ fj O O (v:=aG r2) O<|aX<|goZ hrg<|hQ _ h)
theorem gq {a:List Int} {Q:Bool->Prop} (h:d6 a Q) (hQ:∀r1,Q r1->R (AV.bool r1) S) :
  Ctr Try.prog 62 [aj a] S R:=by
 refine aJ Try.func62 rfl Try.ntmps62 Try.results62 krZ (λrg hrg=>?_)
 refine ac<|asZ (.bool false) O<|ba<|mvZ (aj a) O<|aa<|aR be O<|aa<|df O O<|mvZ (.bool<|decide<|0<(a.length:Int)) O<|gtZ h O O (λhb h=>?_) (λhb h=>?_)
 ·exact mvZ (aj a) O<|gTZ O O hb<|mvZ (aj a) O<|gTZ O O hb<|aa<|aR be O<|gTZ O O hb<|tkZ h (λhg h=>aa<|aH O O hg<|gTZ O O hb<|tkZ h (λhg1 h=>aa<|bq be bv dZ (λ_=>O) O O hg1<|gTZ O O hb<|aa<|aY bv fR O O (v:=.int .u32 (at' a<|(a.length:Int)-1)) O (gTZ O O hb<|aa<|eZ O O<|aa<|az O hb (v:=.bool ((at' a<|(a.length:Int)-1) != 0)) O (asZ (.bool<|(at' a<|(a.length:Int)-1) != 0) O (aI<|gv1 hrg<|hQ _ h)))))
 exact gFZ O O hb O<|gFZ O O hb O<|gFZ O O hb O<|gFZ O O hb O<|gFZ O O hb O<|gFZ O O hb O<|aa<|aA O hb (v:=.bool false) O<|asZ (.bool false) O<|aI<|gv1 hrg<|hQ _ h
theorem jH {a:GRat} {Q:Bool->Prop} (h:fr a Q) (hQ:∀r1,Q r1->R (AV.bool r1) S) :
  Ctr Try.prog 49 [aG a] S R:=by
 refine aJ Try.func49 rfl Try.ntmps49 Try.results49 krZ (λrg hrg=>?_)
 refine ac<|wZ rg<|c6 (v:=aG a) O O (kk:=3) O dZ (λg1=>asZ (.bool false) O<|nZ<|qZ<|jgZ (γ:=Nat) h (λy=>aw [(1,.ptr rg 1 y.2 0 0),(12,.bool y.1)]) (λy=>stL S rg [(1,.arr 3 [aG a],y.2)]) (λy h=>?_) (λ_ h=>?_))
 ·obtain⟨x,g2⟩:=y
  refine cZ h O (λhb h=>?_) (λhb h=>?_)
  ·exact ac<|aa<|aT tA O<|aa<|af (aZ 1 O) sz4 ag4 O O (v:=.bool a.Neg) O<|aa<|f9 O<|asZ (.bool<|!a.Neg) O<|aI<|gv1 hrg<|hQ _ h
  refine kZ<|ac<|aa<|aT mN O<|aa<|af (aZ 1 O) l8 oB O O (v:=aj a.Num) O<|aa<|clZ O<|gq h λr h=>mvZ (.bool r) O<|gtZ h O O (λhb1 h=>?_) (λhb1 h=>?_)
  ·refine aa<|aT ou O<|gTZ O O hb1<|aa<|af (aZ 1 O) l8 oB O O (v:=aj a.Den) O<|gTZ O O hb1<|aa<|clZ O<|gq h λr1 h=>aa<|az O hb1 (v:=.bool r1) O<|mvZ (.bool r1) O<|gtZ h O O (λhb2 h=>?_) (λhb2 h=>?_)
   ·exact aa<|aT mN O<|gTZ O O hb2<|aa<|af (aZ 1 O) l8 oB O O (v:=aj a.Num) O<|gTZ O O hb2<|aa<|aT ou O<|gTZ O O hb2<|aa<|af (aZ 1 O) l8 oB O O (v:=aj a.Den) O<|gTZ O O hb2<|aa<|clZ O<|iK h λr2 h=>gTZ O O hb2<|aa<|clZ O<|fq h λr3 h=>gTZ O O hb2<|aa<|clZ O<|eC h λr4 h=>gTZ O O hb2<|aa<|ct O O<|aa<|az O hb2 (v:=.bool (r4 == 0)) O<|asZ (.bool<|r4 == 0) O<|aI<|gv1 hrg<|hQ _ h
   exact gFZ O O hb2 O<|gFZ O O hb2 O<|gFZ O O hb2 O<|gFZ O O hb2 O<|gFZ O O hb2 O<|gFZ O O hb2 O<|gFZ O O hb2 O<|aa<|aA O hb2 (v:=.bool false) O<|asZ (.bool false) O<|aI<|gv1 hrg<|hQ _ h
  exact gFZ O O hb1 O<|gFZ O O hb1 O<|aa<|aA O hb1 (v:=.bool false) O<|mvZ (.bool false) O<|gFZ O O O O<|gFZ O O O O<|gFZ O O O O<|gFZ O O O O<|gFZ O O O O<|gFZ O O O O<|gFZ O O O O<|gFZ O O O O<|aa<|aA O O (v:=.bool false) O<|asZ (.bool false) O<|aI<|gv1 hrg<|hQ _ h
 refine rZ<|aa<|aT mN O<|aa<|af (aZ 1 O) l8 oB O O (v:=aj a.Num) O<|aa<|aR be O<|aa<|ct O O<|mvZ (.bool<|(a.Num.length:Int) == 0) O<|gtZ h O O (λhb3 h=>?_) (λhb3 h=>?_)
 ·exact aa<|aT ou O<|gTZ O O hb3<|aa<|af (aZ 1 O) l8 oB O O (v:=aj a.Den) O<|gTZ O O hb3<|aa<|aR be O<|gTZ O O hb3<|aa<|ct O O<|aa<|az O hb3 (v:=.bool ((a.Den.length:Int) == 0)) O (nZ<|⟨(((a.Den.length:Int) == 0),g1),(am (fZ<|fZ<|fn)<|sc O<|sn),h⟩)
 exact gFZ O O hb3 O<|gFZ O O hb3 O<|gFZ O O hb3 O<|aa<|aA O hb3 (v:=.bool false) O<|nZ<|⟨(false,g1),(am (fZ<|fZ<|fn)<|sc O<|sn),h⟩
theorem cd {a:GRat} {Q:Bool->List Int->List Int->Prop} (h:bW a Q) (hQ:∀r1 r2 r3,Q r1 r2 r3->R (.tuple [AV.bool r1,aj r2,aj r3]) S) :
  Ctr Try.prog 37 [aG a] S R:=by
 refine aJ Try.func37 rfl Try.ntmps37 Try.results37 krZ (λrg hrg=>?_)
 refine ac<|wZ rg<|c6 (v:=aG a) O O (kk:=3) O dZ (λg1=>asZ (.bool false) O<|asZ .nil O<|asZ .nil O<|nZ<|qZ<|jgZ (γ:=Nat) h (λy=>aw [(1,.ptr rg 1 y.2 0 0),(13,.bool y.1)]) (λy=>stL S rg [(1,.arr 3 [aG a],y.2)]) (λy h=>?_) (λ_ h=>?_))
 ·obtain⟨x,g2⟩:=y
  refine cZ h O (λhb h=>?_) (λhb h=>?_)
  ·exact ac<|aa<|clZ O<|fq h λr h=>asZ (.bool false) O<|asZ .nil O<|asZ (aj r) O<|aI<|aE (v:=.bool false) O<|aE (v:=.nil) O<|aE (v:=aj r) O<|aX<|bi hrg (VW.tupL<|vZ<|vl' (VW.nilL)<|vZ<|vn)<|hQ _ _ _ h
  exact kZ<|qZ<|Vc.drawn' bY rg (λ_=>fi) krZ<|dP O O<|aT tA O<|dL (E:=([(rg,1)],[])) O O (by simp) (cfn) (af (aZ 1 O) sz4 ag4 O O (v:=.bool a.Neg) O<|dP O O<|aT mN O<|dL (E:=([(rg,1)],[])) O O (by simp) (cfa (by simp[bb])<|cfn) (af (aZ 1 O) l8 oB O O (v:=aj a.Num) O<|dP O O<|aT ou O<|dL (E:=([(rg,1)],[])) O O (by simp) (cfa (by simp[bb])<|cfa (by simp[bb])<|cfn) (af (aZ 1 O) l8 oB O O (v:=aj a.Den) O<|dP O O<|aW (v:=.bool a.Neg) O<|dP O O<|aW (v:=aj a.Num) O<|dP O O<|aW (v:=aj a.Den) O<|dN<|uZ<|aE (v:=.bool a.Neg) O<|aE (v:=aj a.Num) O<|aE (v:=aj a.Den) O<|aX<|bi hrg (VW.tupL<|vZ<|vZ<|vZ<|vn)<|hQ _ _ _ h)))
 refine rZ<|aa<|a8 (aZ 1 O) cu dZ fj O O (v:=aG a) O<|aa<|clZ O<|jH h λr1 h=>aa<|f9 O<|mvZ (.bool<|!r1) O<|gfZ h O O (λhb1 h=>?_) (λhb1 h=>?_)
 ·exact aa<|aT mN O<|gTZ O O hb1<|aa<|af (aZ 1 O) l8 oB O O (v:=aj a.Num) O<|gTZ O O hb1<|aa<|aR be O<|gTZ O O hb1<|aa<|ct O O<|aa<|aA O hb1 (v:=.bool ((a.Num.length:Int) == 0)) O (nZ<|⟨(((a.Num.length:Int) == 0),g1),(am (fZ<|fZ<|fn)<|sc O<|sn),h⟩)
 exact gFZ O O hb1 O<|gFZ O O hb1 O<|gFZ O O hb1 O<|aa<|az O hb1 (v:=.bool true) O<|nZ<|⟨(true,g1),(am (fZ<|fZ<|fn)<|sc O<|sn),h⟩
theorem gN {a:GRat} {Q:Int->Prop} (h:dk a Q) (hQ:∀r1,Q r1->R (iZ r1) S) :
  Ctr Try.prog 21 [aG a] S R:=by
 refine aJ Try.func21 rfl Try.ntmps21 Try.results21 krZ (λrg hrg=>?_)
 refine ac<|wZ rg<|c6 (v:=aG a) O O (kk:=3) O dZ (λg1=>asZ (iZ 0) O<|ba<|aa<|a8 (aZ 1 O) cu dZ fj O O (v:=aG a) O<|aa<|clZ O<|cd h λr r1 r2 h=>mvZ (.tuple [.bool r,aj r1,aj r2]) O<|aa<|au (v:=.bool r) O O O<|aa<|au (v:=aj r1) O O O<|aa<|au (v:=aj r2) O O O<|asZ (.bool r) O<|asZ (aj r1) O<|asZ (aj r2) O<|nZ<|qZ<|bZ<|ac<|mvZ (aj r1) O<|aa<|aR be O<|aa<|ct O O<|asZ (.bool<|(r1.length:Int) == 0) O<|nZ<|cZ h O (λhb h=>?_) (λhb h=>?_))
 ·exact ac<|asZ (iZ 0) O<|aI<|gv1 hrg<|hQ _ h
 refine ac<|mvZ (.bool r) O<|asZ (.bool r) O<|nZ<|cZ h O (λhb1 h=>?_) (λhb1 h=>?_)
 ·exact ac<|asZ (iZ<|-1) O<|aI<|gv1 hrg<|hQ _ h
 exact kZ<|ac<|asZ (iZ 1) O<|aI<|gv1 hrg<|hQ _ h
theorem kG {a:GRat} {b:GRat} {Q:GRat->Option Int->Prop} (h:dK a b Q) (hQ:∀r1 r2,Q r1 r2->R (.tuple [aG r1,a_ 65 r2]) S) :
  Ctr Try.prog 22 [aG a,aG b] S R:=by
 refine aJ Try.func22 rfl Try.ntmps22 Try.results22 krZ (λrg hrg=>?_)
 refine ac<|wZ rg<|c6 (v:=aG a) O O (kk:=3) O dZ (λg1=>wZ rg<|c6 (v:=aG b) O O (kk:=3) O dZ (λg2=>wZ rg<|b8 iD oc (kk:=3) O (λg3=>asZ .niface O<|ba<|aa<|a8 (aZ 2 O) cu dZ fj O O (v:=aG a) O<|aa<|clZ O<|cd h λr r1 r2 h=>mvZ (.tuple [.bool r,aj r1,aj r2]) O<|aa<|au (v:=.bool r) O O O<|aa<|au (v:=aj r1) O O O<|aa<|au (v:=aj r2) O O O<|asZ (.bool r) O<|asZ (aj r1) O<|asZ (aj r2) O<|ba<|aa<|a8 (aZ 3 O) cu dZ fj O O (v:=aG b) O<|aa<|clZ O<|cd h λr3 r4 r5 h=>mvZ (.tuple [.bool r3,aj r4,aj r5]) O<|aa<|au (v:=.bool r3) O O O<|aa<|au (v:=aj r4) O O O<|aa<|au (v:=aj r5) O O O<|asZ (.bool r3) O<|asZ (aj r4) O<|asZ (aj r5) O<|nZ<|qZ<|ac<|mvZ (aj r4) O<|aa<|aR be O<|aa<|ct O O<|nZ<|cZ h O (λhb h=>?_) (λhb h=>?_))))
 ·exact ac<|aa<|e8 ra iD tK sM cu (ps:=[]) O O (v:=.agg [.bool false,.nil,.nil]) O<|aa<|c5 (by rw[iX];trivial) (v:=iZ 8) O<|aa<|bc (aZ 4 O) cu dZ O (w:=.agg [.bool false,.nil,.nil]) O O O (v:=.agg [.bool false,.nil,.nil]) O bB<|asZ (.iface 65<|iZ 8) O<|aI<|cF (aZ 4 O) cu dZ fj O O (v:=.agg [.bool false,.nil,.nil]) O<|aE (v:=.iface 65 (iZ 8)) O<|aX<|bi hrg (VW.tupL<|vl' (VW.aggL<|vZ<|vl' (VW.nilL)<|vl' (VW.nilL)<|vn)<|vZ<|vn)<|hQ _ _ h
 exact kZ<|ac<|mvZ (.bool r) O<|mvZ (.bool r3) O<|aa<|vA td4 O O<|mvZ (aj r1) O<|mvZ (aj r5) O<|aa<|clZ O<|dl h λr6 h=>mvZ (aj r2) O<|mvZ (aj r4) O<|aa<|clZ O<|dl h λr7 h=>aa<|clZ O<|cq h λr8 h=>aa<|bc (aZ 4 O) cu dZ O (w:=aG r8) O O O (v:=aG r8) O bB<|asZ .niface O<|aI<|cF (aZ 4 O) cu dZ fj O O (v:=aG r8) O<|aE (v:=.niface) O<|aX<|bi hrg (VW.tupL<|vZ<|vZ<|vn)<|hQ _ _ h
theorem h7 {a:GRat} {b:GRat} {Q:GRat->Prop} (h:cK a b Q) (hQ:∀r1,Q r1->R (aG r1) S) :
  Ctr Try.prog 23 [aG a,aG b] S R:=by
 refine aJ Try.func23 rfl Try.ntmps23 Try.results23 krZ (λrg hrg=>?_)
 refine ac<|wZ rg<|c6 (v:=aG a) O O (kk:=3) O dZ (λg1=>wZ rg<|c6 (v:=aG b) O O (kk:=3) O dZ (λg2=>wZ rg<|b8 iD oc (kk:=3) O (λg3=>ba<|aa<|a8 (aZ 2 O) cu dZ fj O O (v:=aG a) O<|aa<|clZ O<|cd h λr r1 r2 h=>mvZ (.tuple [.bool r,aj r1,aj r2]) O<|aa<|au (v:=.bool r) O O O<|aa<|au (v:=aj r1) O O O<|aa<|au (v:=aj r2) O O O<|asZ (.bool r) O<|asZ (aj r1) O<|asZ (aj r2) O<|ba<|aa<|a8 (aZ 3 O) cu dZ fj O O (v:=aG b) O<|aa<|clZ O<|cd h λr3 r4 r5 h=>mvZ (.tuple [.bool r3,aj r4,aj r5]) O<|aa<|au (v:=.bool r3) O O O<|aa<|au (v:=aj r4) O O O<|aa<|au (v:=aj r5) O O O<|asZ (.bool r3) O<|asZ (aj r4) O<|asZ (aj r5) O<|ba<|mvZ (aj r1) O<|mvZ (aj r5) O<|aa<|clZ O<|dl h λp h=>mvZ (aj r4) O<|mvZ (aj r2) O<|aa<|clZ O<|dl h λq h=>asZ (aj p) O<|asZ (aj q) O<|ba<|mvZ (aj r2) O<|mvZ (aj r5) O<|aa<|clZ O<|dl h λden h=>asZ (aj den) O<|nZ<|qZ<|ac<|mvZ (.bool r) O<|mvZ (.bool r3) O<|aa<|vC td4 O O<|nZ<|cZ h O (λhb h=>?_) (λhb h=>?_))))
 ·exact ac<|mvZ (.bool r) O<|mvZ (aj p) O<|mvZ (aj q) O<|aa<|clZ O<|lM h λr6 h=>mvZ (aj den) O<|aa<|clZ O<|cq h λr7 h=>aa<|bc (aZ 4 O) cu dZ O (w:=aG r7) O O O (v:=aG r7) O bB<|aI<|cF (aZ 4 O) cu dZ fj O O (v:=aG r7) O<|aX<|goZ hrg<|hQ _ h
 refine kZ<|qZ<|ac<|mvZ (aj p) O<|mvZ (aj q) O<|aa<|clZ O<|eC h λr8 h=>aa<|e7 O O<|nZ<|cZ h O (λhb1 h=>?_) (λhb1 h=>?_)
 ·exact ac<|mvZ (aj p) O<|mvZ (aj q) O<|aa<|clZ O<|iJ h λr9 r10 h=>mvZ (.tuple [aj r9,a_ 65 r10]) O<|aa<|au (v:=aj r9) O O O<|aa<|au (v:=a_ 65 r10) O O O<|asZ (aj r9) O<|asZ (a_ 65 r10) O<|ba<|mvZ (.bool r) O<|mvZ (aj r9) O<|mvZ (aj den) O<|aa<|clZ O<|cq h λr11 h=>aa<|bc (aZ 4 O) cu dZ O (w:=aG r11) O O O (v:=aG r11) O bB<|aI<|cF (aZ 4 O) cu dZ fj O O (v:=aG r11) O<|aX<|goZ hrg<|hQ _ h
 exact kZ<|ac<|mvZ (aj q) O<|mvZ (aj p) O<|aa<|clZ O<|iJ h λr12 r13 h=>mvZ (.tuple [aj r12,a_ 65 r13]) O<|aa<|au (v:=aj r12) O O O<|aa<|au (v:=a_ 65 r13) O O O<|asZ (aj r12) O<|asZ (a_ 65 r13) O<|ba<|mvZ (.bool r3) O<|mvZ (aj r12) O<|mvZ (aj den) O<|aa<|clZ O<|cq h λr14 h=>aa<|bc (aZ 4 O) cu dZ O (w:=aG r14) O O O (v:=aG r14) O bB<|aI<|cF (aZ 4 O) cu dZ fj O O (v:=aG r14) O<|aX<|goZ hrg<|hQ _ h
theorem kF {a:GRat} {Q:GRat->Prop} (h:gt a Q) (hQ:∀r1,Q r1->R (aG r1) S) :
  Ctr Try.prog 54 [aG a] S R:=by
 refine aJ Try.func54 rfl Try.ntmps54 Try.results54 krZ (λrg hrg=>?_)
 exact ac<|wZ rg<|c6 (v:=aG a) O O (kk:=3) O dZ (λg1=>wZ rg<|b8 iD oc (kk:=3) O (λg2=>ba<|aa<|a8 (aZ 1 O) cu dZ fj O O (v:=aG a) O<|aa<|clZ O<|cd h λr r1 r2 h=>mvZ (.tuple [.bool r,aj r1,aj r2]) O<|aa<|au (v:=.bool r) O O O<|aa<|au (v:=aj r1) O O O<|aa<|au (v:=aj r2) O O O<|asZ (.bool r) O<|asZ (aj r1) O<|asZ (aj r2) O<|ba<|mvZ (.bool r) O<|aa<|f9 O<|mvZ (aj r1) O<|mvZ (aj r2) O<|aa<|clZ O<|cq h λr3 h=>aa<|bc (aZ 2 O) cu dZ O (w:=aG r3) O O O (v:=aG r3) O bB<|aI<|cF (aZ 2 O) cu dZ fj O O (v:=aG r3) O<|aX<|goZ hrg<|hQ _ h))
theorem kE {a:GRat} {b:GRat} {Q:GRat->Prop} (h:gr a b Q) (hQ:∀r1,Q r1->R (aG r1) S) :
  Ctr Try.prog 43 [aG a,aG b] S R:=by
 refine aJ Try.func43 rfl Try.ntmps43 Try.results43 krZ (λrg hrg=>?_)
 refine ac<|wZ rg<|c6 (v:=aG a) O O (kk:=3) O dZ (λg1=>wZ rg<|c6 (v:=aG b) O O (kk:=3) O dZ (λg2=>wZ rg<|b8 iD oc (kk:=3) O (λg3=>nZ<|qZ ?_)))
 obtain⟨r,hc,h⟩:=h
 obtain⟨r1,hc1,h⟩:=h
 exact Vc.drawn' bY rg (jp [(2,pc (aG r)),(3,pc (aG r1))]) krZ<|dL (E:=([(rg,2)],[])) O O (by simp) (cfn) (a8 (aZ 2 O) cu dZ fj O O (v:=aG a) O<|dL (E:=([(rg,3)],[])) O O (by simp) (cfa (by simp[bb])<|cfn) (a8 (aZ 3 O) cu dZ fj O O (v:=aG b) O<|dC (vs:=[aG b]) O (vZ<|vn) (λ_=>kF hc (λ_ hr=>⟨by rw[hr],rfl⟩)) O<|dC (vs:=[aG a,aG r]) O (vZ<|vZ<|vn) (λ_=>h7 hc1 (λ_ hr=>⟨by rw[hr],rfl⟩)) O<|dL (E:=([],[(rg,4)])) O O (by simp) (cfo krZ<|cfo krZ<|cfn) (bc (aZ 4 O) cu dZ O (w:=aG r1) O O O (v:=aG r1) O bB<|dN<|uZ<|cF (aZ 4 O) cu dZ fj O O (v:=aG r1) O<|aX<|goZ hrg<|hQ _ h)))
theorem kH {a:GRat} {b:GRat} {Q:Int->Prop} (h:dM a b Q) (hQ:∀r1,Q r1->R (iZ r1) S) :
  Ctr Try.prog 27 [aG a,aG b] S R:=by
 refine aJ Try.func27 rfl Try.ntmps27 Try.results27 krZ (λrg hrg=>?_)
 exact ac<|wZ rg<|c6 (v:=aG a) O O (kk:=3) O dZ (λg1=>wZ rg<|c6 (v:=aG b) O O (kk:=3) O dZ (λg2=>asZ (iZ 0) O<|ba<|aa<|a8 (aZ 2 O) cu dZ fj O O (v:=aG a) O<|aa<|a8 (aZ 3 O) cu dZ fj O O (v:=aG b) O<|aa<|clZ O<|kE h λr h=>aa<|clZ O<|gN h λr1 h=>asZ (iZ r1) O<|aI<|gv1 hrg<|hQ _ h))
theorem eu {a:List Int} {b:List Int} {Q:Bool->Prop} (h:dV a b Q) (hQ:∀r1,Q r1->R (AV.bool r1) S) :
  Ctr Try.prog 11 [aM a,aM b] S R:=by
 refine aJ Try.func11 rfl Try.ntmps11 Try.results11 krZ (λrg hrg=>?_)
 refine ac<|asZ (.bool false) O<|nZ<|qZ<|ac<|mvZ (aM a) O<|aa<|aR aV O<|mvZ (aM b) O<|aa<|aR aV O<|aa<|eZ O O<|nZ<|cZ h O (λhb h=>?_) (λhb h=>?_)
 ·exact ac<|asZ (.bool false) O<|aI<|gv1 hrg<|hQ _ h
 refine kZ<|qZ<|ac<|mvZ (aM a) O<|aa<|aR aV O<|mvZ (iZ 0) O<|nZ<|bZ<|lpZ h (λy=>aw [(0,aM a),(1,aM b),(12,iZ (a.length:Int)),(13,iZ y)]) (λy=>stL S rg []) (am (aB<|fn)<|sn) (λx _ h=>ac<|aa<|aQ O O<|nZ<|qZ<|cZ h O (λhb1 h=>?_) (λhb1 h=>?_))
 ·refine kZ<|qZ<|bZ<|ac<|mvZ (iZ x) O<|asZ (iZ x) O<|nZ<|qZ<|tkZ h (λhg h=>tkZ h (λhg1 h=>Vc.drawn' bY rg (λ_=>fi) krZ<|dP O O<|ah (v:=aM a) O<|dP O O<|ah (v:=iZ x) O<|dP O O<|bq aV sz3 dZ (λ_=>O) O O hg<|dP O O<|aY sz3 ag3 O O (v:=iZ (at' a x)) O<|dP O O<|ah (v:=aM b) O<|dP O O<|ah (v:=iZ x) O<|dP O O<|bq aV sz3 dZ (λ_=>O) O O hg1<|dP O O<|aY sz3 ag3 O O (v:=iZ (at' b x)) O<|dP O O<|eZ O O<|dN<|cZ h O (λhb2 h=>?_) (λhb2 h=>?_)))
  ·exact ac<|asZ (.bool false) O<|aI<|gv1 hrg<|hQ _ h
  exact kZ<|rZ<|tkZ h (λhg2 h=>aa<|aq O O hg2<|mvZ (iZ<|x+1) O<|nZ<|⟨(x+1),(am (aB<|fn)<|sn),h⟩)
 exact xsZ<|ac<|asZ (.bool true) O<|aI<|gv1 hrg<|hQ _ h
end Go.Proofs.Ytaphmailhjfiaaa
namespace Go.Proofs.Ytaphmailhjfiaaa
open Go.Gg
set_option maxRecDepth 100000
variable {S:St} {R:AV->St->Prop}
theorem iU {kind:Int} {n:Int} {Q:Bool->Prop} (h:ec kind n Q) (hQ:∀r1,Q r1->R (AV.bool r1) S) :
  Ctr Try.prog 44 [iZ kind,iZ n] S R:=by
 refine aJ Try.func44 rfl Try.ntmps44 Try.results44 krZ (λrg hrg=>?_)
 refine ac<|asZ (.bool false) O<|nZ<|qZ<|ac<|mvZ (iZ kind) O<|nZ<|bZ<|ac<|aa<|ct O O<|asZ (.bool<|kind == 0) O<|nZ<|cZ h O (λhb h=>?_) (λhb h=>?_)
 ·exact ac<|mvZ (iZ n) O<|aa<|ct O O<|asZ (.bool<|n == 0) O<|aI<|gv1 hrg<|hQ _ h
 refine ac<|aa<|ct O O<|asZ (.bool<|kind == 1) O<|nZ<|cZ h O (λhb1 h=>?_) (λhb1 h=>?_)
 ·exact ac<|mvZ (iZ n) O<|aa<|ct O O<|asZ (.bool<|n == 1) O<|aI<|gv1 hrg<|hQ _ h
 refine kZ<|ac<|mvZ (iZ n) O<|aa<|e7 O O<|mvZ (.bool<|decide<|1<=n) O<|gtZ h O O (λhb2 h=>?_) (λhb2 h=>?_)
 ·exact mvZ (iZ n) O<|gTZ O O hb2<|aa<|nB O O<|aa<|az O hb2 (v:=.bool (decide<|n<=16)) O (asZ (.bool<|decide<|n<=16) O<|aI<|gv1 hrg<|hQ _ h)
 exact gFZ O O hb2 O<|aa<|aA O hb2 (v:=.bool false) O<|asZ (.bool false) O<|aI<|gv1 hrg<|hQ _ h
theorem iT {f:GFormula} {i:Int} {Q:Option Int->Prop} (h:eb f i Q) (hQ:∀r1,Q r1->R (a_ 65 r1) S) :
  Ctr Try.prog 30 [an f,iZ i] S R:=by
 refine aJ Try.func30 rfl Try.ntmps30 Try.results30 krZ (λrg hrg=>?_)
 refine ac<|wZ rg<|c6 (v:=an f) O O (kk:=3) O dZ (λg1=>asZ .niface O<|ba<|aa<|aT cz O<|aa<|af (aZ 2 O) fo f8 O O (v:=eL aP f.Nodes) O<|mvZ (iZ i) O<|tkZ h (λhg h=>aa<|bq fm gI dZ (λ_=>O) O O hg<|aa<|i6 gI dZ sf O O (v:=aP (at' f.Nodes i)) O<|wZ rg<|b8 iE od (kk:=3) O (λg2=>aa<|bc (aZ 5 O) gI dZ O (w:=aP (at' f.Nodes i)) O O O (v:=aP (at' f.Nodes i)) O bB<|nZ<|qZ<|jgZ (γ:=Nat×Nat) h (λy=>aw [(1,iZ i),(2,.ptr rg 2 y.2.1 0 0),(5,.ptr rg 5 y.2.2 0 0),(20,.bool y.1)]) (λy=>stL S rg [(2,.arr 3 [an f],y.2.1),(5,.arr 3 [aP (at' f.Nodes i)],y.2.2)]) (λy h=>?_) (λ_ h=>?_))))
 ·obtain⟨x,⟨g3,g4⟩⟩:=y
  refine cZ h O (λhb h=>?_) (λhb h=>?_)
  ·exact ac<|aa<|c5 (by rw[iX];trivial) (v:=iZ 7) O<|asZ (.iface 65<|iZ 7) O<|aI<|gv1 hrg<|hQ _ h
  refine kZ<|qZ<|ac<|aa<|aT jN O<|aa<|af (aZ 5 O) sz3 ag3 O O (v:=iZ ((at' f.Nodes i).Kind)) O (aa<|aT ed O<|aa<|af (aZ 5 O) dj fA O O (v:=aM ((at' f.Nodes i).Args)) O (aa<|aR aV O<|aa<|clZ O<|iU h λr h=>aa<|f9 O<|nZ<|cZ h O (λhb1 h=>?_) (λhb1 h=>?_)))
  ·exact ac<|aa<|c5 (by rw[iX];trivial) (v:=iZ 11) O<|asZ (.iface 65<|iZ 11) O<|aI<|gv1 hrg<|hQ _ h
  refine kZ<|qZ<|ac<|aa<|aT ed O<|aa<|af (aZ 5 O) dj fA O O (v:=aM ((at' f.Nodes i).Args)) O (aa<|aR aV O<|mvZ (iZ 0) O<|nZ<|bZ<|lgZ h (g3,g4) (λy=>aw [(1,iZ i),(2,.ptr rg 2 y.2.1 0 0),(5,.ptr rg 5 y.2.2 0 0),(31,aM ((at' f.Nodes i).Args)),(32,iZ (((at' f.Nodes i).Args).length:Int)),(33,iZ y.1)]) (λy=>stL S rg [(2,.arr 3 [an f],y.2.1),(5,.arr 3 [aP (at' f.Nodes i)],y.2.2)]) (am (aB<|fZ<|fZ<|fn)<|sc O<|sc O<|sn) (λy _ h=>?_))
  obtain⟨x1,⟨g5,g6⟩⟩:=y
  refine ac<|aa<|aQ O O<|nZ<|qZ<|cZ h O (λhb2 h=>?_) (λhb2 h=>?_)
  ·refine kZ<|qZ<|bZ<|ac<|tkZ h (λhg1 h=>aa<|bq aV sz3 dZ (λ_=>O) O O hg1<|aa<|aY sz3 ag3 O O (v:=iZ (at' ((at' f.Nodes i).Args) x1)) O (asZ (iZ<|at' ((at' f.Nodes i).Args) x1) O<|nZ<|jgZ (γ:=Nat×Nat) h (λy=>aw [(1,iZ i),(2,.ptr rg 2 y.2.1 0 0),(5,.ptr rg 5 y.2.2 0 0),(31,aM ((at' f.Nodes i).Args)),(32,iZ (((at' f.Nodes i).Args).length:Int)),(33,iZ x1),(46,.bool y.1)]) (λy=>stL S rg [(2,.arr 3 [an f],y.2.1),(5,.arr 3 [aP (at' f.Nodes i)],y.2.2)]) (λy h=>?_) (λ_ h=>?_)))
   ·obtain⟨x2,⟨g7,g8⟩⟩:=y
    refine cZ h O (λhb3 h=>?_) (λhb3 h=>?_)
    ·exact ac<|aa<|c5 (by rw[iX];trivial) (v:=iZ 10) O<|asZ (.iface 65<|iZ 10) O<|aI<|gv1 hrg<|hQ _ h
    exact kZ<|rZ<|tkZ h (λhg2 h=>aa<|aq O O hg2<|mvZ (iZ<|x1+1) O<|nZ<|⟨((x1+1),(g7,g8)),(am (aB<|fZ<|fZ<|fn)<|sc O<|sc O<|sn),h⟩)
   refine rZ<|mvZ (iZ<|at' ((at' f.Nodes i).Args) x1) O<|aa<|aQ O O<|mvZ (.bool<|decide<|(at' ((at' f.Nodes i).Args) x1)<0) O (gfZ h O O (λhb4 h=>?_) (λhb4 h=>?_))
   ·exact mvZ (iZ<|at' ((at' f.Nodes i).Args) x1) O<|gTZ O O hb4<|aa<|aT bI O<|gTZ O O hb4<|aa<|af (aZ 2 O) sz3 ag3 O O (v:=iZ f.Vars) O<|gTZ O O hb4<|mvZ (iZ i) O<|gTZ O O hb4<|tkZ h (λhg3 h=>aa<|aq O O hg3<|gTZ O O hb4<|aa<|e7 O O<|aa<|aA O hb4 (v:=.bool (decide<|(f.Vars+i)<=(at' ((at' f.Nodes i).Args) x1))) O (nZ<|⟨((decide<|(f.Vars+i)<=(at' ((at' f.Nodes i).Args) x1)),(g5,g6)),(am (aB<|fZ<|fZ<|fZ<|fn)<|sc O<|sc O<|sn),h⟩))
   exact gFZ O O hb4 O<|gFZ O O hb4 O<|gFZ O O hb4 O<|gFZ O O hb4 O<|gFZ O O hb4 O<|aa<|az O hb4 (v:=.bool true) O<|nZ<|⟨(true,(g5,g6)),(am (aB<|fZ<|fZ<|fZ<|fn)<|sc O<|sc O<|sn),h⟩
  refine xsZ<|qZ<|ac<|aa<|aT jN O<|aa<|af (aZ 5 O) sz3 ag3 O O (v:=iZ ((at' f.Nodes i).Kind)) O (nZ<|bZ<|ac<|aa<|ct O O<|asZ (.bool<|(at' f.Nodes i).Kind == 0) O<|nZ<|cZ h O (λhb5 h=>?_) (λhb5 h=>?_))
  ·refine jnZ h (λy=>aw [(64,.bool y)]) (λy=>stL S rg []) (λx3 h=>?_) (λ_ h=>?_)
   ·refine cZ h O (λhb6 h=>?_) (λhb6 h=>?_)
    ·exact ac<|aa<|c5 (by rw[iX];trivial) (v:=iZ 3) O<|asZ (.iface 65<|iZ 3) O<|aI<|gv1 hrg<|hQ _ h
    exact kZ<|ac<|asZ .niface O<|aI<|gv1 hrg<|hQ _ h
   refine rZ<|aa<|aT gC O<|aa<|af (aZ 5 O) sz3 ag3 O O (v:=iZ ((at' f.Nodes i).K)) O (aa<|eZ O O<|mvZ (.bool<|(at' f.Nodes i).K != 0) O<|gtZ h O O (λhb7 h=>?_) (λhb7 h=>?_))
   ·exact aa<|aT gC O<|gTZ O O hb7<|aa<|af (aZ 5 O) sz3 ag3 O O (v:=iZ ((at' f.Nodes i).K)) O (gTZ O O hb7<|aa<|eZ O O<|aa<|az O hb7 (v:=.bool ((at' f.Nodes i).K != 1)) O (nZ<|⟨((at' f.Nodes i).K != 1),(am (fZ<|fn)<|sn),h⟩))
   exact gFZ O O hb7 O<|gFZ O O hb7 O<|aa<|aA O hb7 (v:=.bool false) O<|nZ<|⟨false,(am (fZ<|fn)<|sn),h⟩
  refine ac<|aa<|ct O O<|asZ (.bool<|(at' f.Nodes i).Kind == 4) O<|nZ<|cZ h O (λhb8 h=>?_) (λhb8 h=>?_)
  ·refine jnZ h (λy=>aw [(78,.bool y)]) (λy=>stL S rg []) (λx4 h=>?_) (λ_ h=>?_)
   ·refine cZ h O (λhb9 h=>?_) (λhb9 h=>?_)
    ·exact ac<|aa<|c5 (by rw[iX];trivial) (v:=iZ 3) O<|asZ (.iface 65<|iZ 3) O<|aI<|gv1 hrg<|hQ _ h
    exact kZ<|ac<|asZ .niface O<|aI<|gv1 hrg<|hQ _ h
   refine rZ<|aa<|aT gC O<|aa<|af (aZ 5 O) sz3 ag3 O O (v:=iZ ((at' f.Nodes i).K)) O (aa<|aQ O O<|mvZ (.bool<|decide<|(at' f.Nodes i).K<1) O<|gfZ h O O (λhb10 h=>?_) (λhb10 h=>?_))
   ·exact aa<|aT gC O<|gTZ O O hb10<|aa<|af (aZ 5 O) sz3 ag3 O O (v:=iZ ((at' f.Nodes i).K)) O (gTZ O O hb10<|aa<|aT ed O<|gTZ O O hb10<|aa<|af (aZ 5 O) dj fA O O (v:=aM ((at' f.Nodes i).Args)) O (gTZ O O hb10<|aa<|aR aV O<|gTZ O O hb10<|aa<|df O O<|aa<|aA O hb10 (v:=.bool (decide<|(((at' f.Nodes i).Args).length:Int)<(at' f.Nodes i).K)) O (nZ<|⟨(decide<|(((at' f.Nodes i).Args).length:Int)<(at' f.Nodes i).K),(am (fZ<|fn)<|sn),h⟩)))
   exact gFZ O O hb10 O<|gFZ O O hb10 O<|gFZ O O hb10 O<|gFZ O O hb10 O<|gFZ O O hb10 O<|aa<|az O hb10 (v:=.bool true) O<|nZ<|⟨true,(am (fZ<|fn)<|sn),h⟩
  refine ac<|aa<|aT gC O<|aa<|af (aZ 5 O) sz3 ag3 O O (v:=iZ ((at' f.Nodes i).K)) O (aa<|eZ O O<|nZ<|cZ h O (λhb11 h=>?_) (λhb11 h=>?_))
  ·exact ac<|aa<|c5 (by rw[iX];trivial) (v:=iZ 2) O<|asZ (.iface 65<|iZ 2) O<|aI<|gv1 hrg<|hQ _ h
  exact kZ<|ac<|asZ .niface O<|aI<|gv1 hrg<|hQ _ h
 refine rZ<|aa<|aT jN O<|aa<|af (aZ 5 O) sz3 ag3 O O (v:=iZ ((at' f.Nodes i).Kind)) O (aa<|aQ O O<|mvZ (.bool<|decide<|(at' f.Nodes i).Kind<0) O<|gfZ h O O (λhb12 h=>?_) (λhb12 h=>?_))
 ·exact aa<|aT jN O<|gTZ O O hb12<|aa<|af (aZ 5 O) sz3 ag3 O O (v:=iZ ((at' f.Nodes i).Kind)) O (gTZ O O hb12<|aa<|df O O<|aa<|aA O hb12 (v:=.bool (decide<|5<(at' f.Nodes i).Kind)) O (nZ<|⟨((decide<|5<(at' f.Nodes i).Kind),(g1,g2)),(am (aB<|fn)<|sc O<|sc O<|sn),h⟩))
 exact gFZ O O hb12 O<|gFZ O O hb12 O<|aa<|az O hb12 (v:=.bool true) O<|nZ<|⟨(true,(g1,g2)),(am (aB<|fn)<|sc O<|sc O<|sn),h⟩
theorem ko {f:GFormula} {arg:Int} {Q:Bool->Prop} (h:f7 f arg Q) (hQ:∀r1,Q r1->R (AV.bool r1) S) :
  Ctr Try.prog 31 [an f,iZ arg] S R:=by
 refine aJ Try.func31 rfl Try.ntmps31 Try.results31 krZ (λrg hrg=>?_)
 refine ac<|wZ rg<|c6 (v:=an f) O O (kk:=3) O dZ (λg1=>asZ (.bool false) O<|ba<|aa<|aT bI O<|aa<|af (aZ 2 O) sz3 ag3 O O (v:=iZ f.Vars) O<|aa<|e7 O O<|mvZ (.bool<|decide<|0<=f.Vars) O<|gtZ h O O (λhb h=>?_) (λhb h=>?_))
 ·refine mvZ (iZ arg) O<|gTZ O O hb<|aa<|e7 O O<|aa<|az O hb (v:=.bool (decide<|0<=arg)) O (mvZ (.bool<|decide<|0<=arg) O<|gtZ h O O (λhb1 h=>?_) (λhb1 h=>?_))
  ·refine mvZ (iZ arg) O<|gTZ O O hb1<|aa<|aT bI O<|gTZ O O hb1<|aa<|af (aZ 2 O) sz3 ag3 O O (v:=iZ f.Vars) O<|gTZ O O hb1<|aa<|aQ O O<|gTZ O O hb1<|mvZ (.bool<|decide<|arg<f.Vars) O<|gfZ h O O (λhb2 h=>?_) (λhb2 h=>?_)
   ·exact mvZ (iZ arg) O<|gTZ O O hb2<|aa<|aT bI O<|gTZ O O hb2<|aa<|af (aZ 2 O) sz3 ag3 O O (v:=iZ f.Vars) O<|gTZ O O hb2<|tkZ h (λhg h=>aa<|aH O O hg<|gTZ O O hb2<|aa<|aT cz O<|gTZ O O hb2<|aa<|af (aZ 2 O) fo f8 O O (v:=eL aP f.Nodes) O<|gTZ O O hb2<|aa<|aR fm O<|gTZ O O hb2<|aa<|aQ O O<|gTZ O O hb1<|aa<|aA O hb2 (v:=.bool (decide<|(arg-f.Vars)<(f.Nodes.length:Int))) O (aa<|az O hb1 (v:=.bool (decide<|(arg-f.Vars)<(f.Nodes.length:Int))) O (asZ (.bool<|decide<|(arg-f.Vars)<(f.Nodes.length:Int)) O (aI<|gv1 hrg<|hQ _ h))))
   exact gFZ O O hb2 O<|gFZ O O hb2 O<|gFZ O O hb2 O<|gFZ O O hb2 O<|gFZ O O hb2 O<|gFZ O O hb2 O<|gFZ O O hb2 O<|gTZ O O hb1<|aa<|az O hb2 (v:=.bool true) O<|aa<|az O hb1 (v:=.bool true) O<|asZ (.bool true) O<|aI<|gv1 hrg<|hQ _ h
  exact gFZ O O hb1 O<|gFZ O O hb1 O<|gFZ O O hb1 O<|gFZ O O hb1 O<|gUZ O O<|gUZ O O<|gUZ O O<|gUZ O O<|gUZ O O<|gUZ O O<|gUZ O O<|gUZ O O<|gFZ O O hb1 O<|aa<|aA O hb1 (v:=.bool false) O<|asZ (.bool false) O<|aI<|gv1 hrg<|hQ _ h
 exact gFZ O O hb O<|aa<|aA O hb (v:=.bool false) O<|mvZ (.bool false) O<|gFZ O O O O<|gFZ O O O O<|gFZ O O O O<|gFZ O O O O<|gFZ O O O O<|gUZ O O<|gUZ O O<|gUZ O O<|gUZ O O<|gUZ O O<|gUZ O O<|gUZ O O<|gUZ O O<|gFZ O O O O<|aa<|aA O O (v:=.bool false) O<|asZ (.bool false) O<|aI<|gv1 hrg<|hQ _ h
theorem dB {f:GFormula} {Q:Option Int->Prop} (h:cW f Q) (hQ:∀r1,Q r1->R (a_ 65 r1) S) :
  Ctr Try.prog 16 [an f] S R:=by
 refine aJ Try.func16 rfl Try.ntmps16 Try.results16 krZ (λrg hrg=>?_)
 refine ac<|wZ rg<|c6 (v:=an f) O O (kk:=3) O dZ (λg1=>asZ .niface O<|nZ<|qZ<|jgZ (γ:=Nat) h (λy=>aw [(1,.ptr rg 1 y.2 0 0),(12,.bool y.1)]) (λy=>stL S rg [(1,.arr 3 [an f],y.2)]) (λy h=>?_) (λ_ h=>?_))
 ·obtain⟨x,g2⟩:=y
  refine cZ h O (λhb h=>?_) (λhb h=>?_)
  ·exact ac<|aa<|c5 (by rw[iX];trivial) (v:=iZ 3) O<|asZ (.iface 65<|iZ 3) O<|aI<|gv1 hrg<|hQ _ h
  refine kZ<|qZ<|ac<|aa<|aT cz O<|aa<|af (aZ 1 O) fo f8 O O (v:=eL aP f.Nodes) O<|aa<|aR fm O<|aa<|df O O<|nZ<|cZ h O (λhb1 h=>?_) (λhb1 h=>?_)
  ·exact ac<|aa<|c5 (by rw[iX];trivial) (v:=iZ 4) O<|asZ (.iface 65<|iZ 4) O<|aI<|gv1 hrg<|hQ _ h
  refine kZ<|qZ<|ac<|aa<|aT cz O<|aa<|af (aZ 1 O) fo f8 O O (v:=eL aP f.Nodes) O<|aa<|aR fm O<|mvZ (iZ 0) O<|nZ<|bZ<|lpZ h (λy=>aw [(1,.ptr rg 1 g2 0 0),(21,iZ (f.Nodes.length:Int)),(22,iZ y)]) (λy=>stL S rg [(1,.arr 3 [an f],g2)]) (am (fZ<|fZ<|fZ<|fn)<|sc O<|sn) (λx1 _ h=>ac<|aa<|aQ O O<|nZ<|qZ<|cZ h O (λhb2 h=>?_) (λhb2 h=>?_))
  ·refine kZ<|qZ<|bZ<|ac<|mvZ (iZ x1) O<|asZ (iZ x1) O<|ba<|aa<|a8 (aZ 1 O) dH dZ fS O O (v:=an f) O<|mvZ (iZ x1) O<|aa<|clZ O<|iT h λe h=>asZ (a_ 65 e) O<|ba<|mvZ (a_ 65 e) O<|aa<|cY hH (E:=65) O O O<|nZ<|cZ h O (λhb3 h=>?_) (λhb3 h=>?_)
   ·exact ac<|mvZ (a_ 65 e) O<|asZ (a_ 65 e) O<|aI<|gv1 hrg<|hQ _ h
   exact kZ<|rZ<|tkZ h (λhg h=>aa<|aq O O hg<|mvZ (iZ<|x1+1) O<|nZ<|⟨(x1+1),(am (fZ<|fZ<|fZ<|fn)<|sc O<|sn),h⟩)
  refine xsZ<|qZ<|ac<|aa<|a8 (aZ 1 O) dH dZ fS O O (v:=an f) O<|aa<|aT iA O<|aa<|af (aZ 1 O) sz3 ag3 O O (v:=iZ f.Top) O<|aa<|clZ O<|ko h λr h=>aa<|f9 O<|nZ<|cZ h O (λhb4 h=>?_) (λhb4 h=>?_)
  ·exact ac<|aa<|c5 (by rw[iX];trivial) (v:=iZ 10) O<|asZ (.iface 65<|iZ 10) O<|aI<|gv1 hrg<|hQ _ h
  exact kZ<|ac<|asZ .niface O<|aI<|gv1 hrg<|hQ _ h
 refine rZ<|aa<|aT bI O<|aa<|af (aZ 1 O) sz3 ag3 O O (v:=iZ f.Vars) O<|aa<|aQ O O<|mvZ (.bool<|decide<|f.Vars<0) O<|gfZ h O O (λhb5 h=>?_) (λhb5 h=>?_)
 ·exact aa<|aT bI O<|gTZ O O hb5<|aa<|af (aZ 1 O) sz3 ag3 O O (v:=iZ f.Vars) O<|gTZ O O hb5<|aa<|df O O<|aa<|aA O hb5 (v:=.bool (decide<|24<f.Vars)) O (nZ<|⟨((decide<|24<f.Vars),g1),(am (fZ<|fZ<|fn)<|sc O<|sn),h⟩)
 exact gFZ O O hb5 O<|gFZ O O hb5 O<|aa<|az O hb5 (v:=.bool true) O<|nZ<|⟨(true,g1),(am (fZ<|fZ<|fn)<|sc O<|sn),h⟩
theorem mj {f:GFormula} {i:Int} {Q:Int->Prop} (h:ip f i Q) (hQ:∀r1,Q r1->R (iZ r1) S) :
  Ctr Try.prog 14 [an f,iZ i] S R:=by
 refine aJ Try.func14 rfl Try.ntmps14 Try.results14 krZ (λrg hrg=>?_)
 refine ac<|wZ rg<|c6 (v:=an f) O O (kk:=3) O dZ (λg1=>asZ (iZ 0) O<|ba<|aa<|aT cz O<|aa<|af (aZ 2 O) fo f8 O O (v:=eL aP f.Nodes) O<|mvZ (iZ i) O<|tkZ h (λhg h=>aa<|bq fm gI dZ (λ_=>O) O O hg<|aa<|i6 gI dZ sf O O (v:=aP (at' f.Nodes i)) O<|wZ rg<|b8 iE od (kk:=3) O (λg2=>aa<|bc (aZ 5 O) gI dZ O (w:=aP (at' f.Nodes i)) O O O (v:=aP (at' f.Nodes i)) O bB<|ba<|asZ (iZ 1) O<|asZ (iZ 16) O<|nZ<|jgZ (γ:=Nat×Nat) h (λy=>aw [(1,iZ i),(2,.ptr rg 2 y.2.1 0 0),(5,.ptr rg 5 y.2.2 0 0),(6,iZ y.1.1),(7,iZ y.1.2)]) (λy=>stL S rg [(2,.arr 3 [an f],y.2.1),(5,.arr 3 [aP (at' f.Nodes i)],y.2.2)]) (λy h=>?_) (λ_ h=>?_))))
 ·obtain⟨⟨least,most⟩,⟨g3,g4⟩⟩:=y
  refine qZ<|ac<|aa<|aT ed O<|aa<|af (aZ 5 O) dj fA O O (v:=aM ((at' f.Nodes i).Args)) O (aa<|aR aV O<|mvZ (iZ least) O<|aa<|aQ O O<|mvZ (.bool<|decide<|(((at' f.Nodes i).Args).length:Int)<least) O (gfZ h O O (λhb h=>?_) (λhb h=>?_)))
  ·refine aa<|aT ed O<|gTZ O O hb<|aa<|af (aZ 5 O) dj fA O O (v:=aM ((at' f.Nodes i).Args)) O (gTZ O O hb<|aa<|aR aV O<|gTZ O O hb<|mvZ (iZ most) O<|gTZ O O hb<|aa<|df O O<|aa<|aA O hb (v:=.bool (decide<|most<(((at' f.Nodes i).Args).length:Int))) O (nZ<|cZ h O (λhb1 h=>?_) (λhb1 h=>?_)))
   ·exact ac<|asZ (iZ 11) O<|aI<|gv1 hrg<|hQ _ h
   refine kZ<|qZ<|ac<|aa<|aT ed O<|aa<|af (aZ 5 O) dj fA O O (v:=aM ((at' f.Nodes i).Args)) O (aa<|aR aV O<|mvZ (iZ 0) O<|nZ<|bZ<|lpZ h (λy=>aw [(1,iZ i),(2,.ptr rg 2 g3 0 0),(5,.ptr rg 5 g4 0 0),(39,aM ((at' f.Nodes i).Args)),(40,iZ (((at' f.Nodes i).Args).length:Int)),(41,iZ y)]) (λy=>stL S rg [(2,.arr 3 [an f],g3),(5,.arr 3 [aP (at' f.Nodes i)],g4)]) (am (aB<|fZ<|fZ<|fn)<|sc O<|sc O<|sn) (λx _ h=>ac<|aa<|aQ O O<|nZ<|qZ<|cZ h O (λhb2 h=>?_) (λhb2 h=>?_)))
   ·refine kZ<|qZ<|bZ<|ac<|tkZ h (λhg1 h=>aa<|bq aV sz3 dZ (λ_=>O) O O hg1<|aa<|aY sz3 ag3 O O (v:=iZ (at' ((at' f.Nodes i).Args) x)) O (asZ (iZ<|at' ((at' f.Nodes i).Args) x) O<|ba<|mvZ (iZ<|at' ((at' f.Nodes i).Args) x) O<|aa<|aQ O O<|mvZ (.bool<|decide<|(at' ((at' f.Nodes i).Args) x)<0) O (gfZ h O O (λhb3 h=>?_) (λhb3 h=>?_))))
    ·refine mvZ (iZ<|at' ((at' f.Nodes i).Args) x) O<|gTZ O O hb3<|aa<|aT bI O<|gTZ O O hb3<|aa<|af (aZ 2 O) sz3 ag3 O O (v:=iZ f.Vars) O<|gTZ O O hb3<|mvZ (iZ i) O<|gTZ O O hb3<|tkZ h (λhg2 h=>aa<|aq O O hg2<|gTZ O O hb3<|aa<|e7 O O<|aa<|aA O hb3 (v:=.bool (decide<|(f.Vars+i)<=(at' ((at' f.Nodes i).Args) x))) O (nZ<|cZ h O (λhb4 h=>?_) (λhb4 h=>?_)))
     ·exact ac<|asZ (iZ 10) O<|aI<|gv1 hrg<|hQ _ h
     exact kZ<|rZ<|tkZ h (λhg3 h=>aa<|aq O O hg3<|mvZ (iZ<|x+1) O<|nZ<|⟨(x+1),(am (aB<|fZ<|fZ<|fn)<|sc O<|sc O<|sn),h⟩)
    exact gFZ O O hb3 O<|gFZ O O hb3 O<|gFZ O O hb3 O<|gFZ O O hb3 O<|gFZ O O hb3 O<|aa<|az O hb3 (v:=.bool true) O<|nZ<|cTZ O O<|ac<|asZ (iZ 10) O<|aI<|gv1 hrg<|hQ _ h
   refine xsZ<|qZ<|ac<|aa<|aT jN O<|aa<|af (aZ 5 O) sz3 ag3 O O (v:=iZ ((at' f.Nodes i).Kind)) O (nZ<|bZ<|ac<|aa<|ct O O<|asZ (.bool<|(at' f.Nodes i).Kind == 0) O<|nZ<|cZ h O (λhb5 h=>?_) (λhb5 h=>?_))
   ·refine ac<|aa<|aT gC O<|aa<|af (aZ 5 O) sz3 ag3 O O (v:=iZ ((at' f.Nodes i).K)) O (aa<|eZ O O<|mvZ (.bool<|(at' f.Nodes i).K != 0) O<|gtZ h O O (λhb6 h=>?_) (λhb6 h=>?_))
    ·refine aa<|aT gC O<|gTZ O O hb6<|aa<|af (aZ 5 O) sz3 ag3 O O (v:=iZ ((at' f.Nodes i).K)) O (gTZ O O hb6<|aa<|eZ O O<|aa<|az O hb6 (v:=.bool ((at' f.Nodes i).K != 1)) O (nZ<|cZ h O (λhb7 h=>?_) (λhb7 h=>?_)))
     ·exact ac<|asZ (iZ 3) O<|aI<|gv1 hrg<|hQ _ h
     exact kZ<|ac<|asZ (iZ 0) O<|aI<|gv1 hrg<|hQ _ h
    exact gFZ O O hb6 O<|gFZ O O hb6 O<|aa<|aA O hb6 (v:=.bool false) O<|nZ<|cFZ O O<|kZ<|ac<|asZ (iZ 0) O<|aI<|gv1 hrg<|hQ _ h
   refine ac<|aa<|ct O O<|asZ (.bool<|(at' f.Nodes i).Kind == 4) O<|nZ<|cZ h O (λhb8 h=>?_) (λhb8 h=>?_)
   ·refine ac<|aa<|aT gC O<|aa<|af (aZ 5 O) sz3 ag3 O O (v:=iZ ((at' f.Nodes i).K)) O (aa<|aQ O O<|mvZ (.bool<|decide<|(at' f.Nodes i).K<1) O<|gfZ h O O (λhb9 h=>?_) (λhb9 h=>?_))
    ·refine aa<|aT gC O<|gTZ O O hb9<|aa<|af (aZ 5 O) sz3 ag3 O O (v:=iZ ((at' f.Nodes i).K)) O (gTZ O O hb9<|aa<|aT ed O<|gTZ O O hb9<|aa<|af (aZ 5 O) dj fA O O (v:=aM ((at' f.Nodes i).Args)) O (gTZ O O hb9<|aa<|aR aV O<|gTZ O O hb9<|aa<|df O O<|aa<|aA O hb9 (v:=.bool (decide<|(((at' f.Nodes i).Args).length:Int)<(at' f.Nodes i).K)) O (nZ<|cZ h O (λhb10 h=>?_) (λhb10 h=>?_))))
     ·exact ac<|asZ (iZ 3) O<|aI<|gv1 hrg<|hQ _ h
     exact kZ<|ac<|asZ (iZ 0) O<|aI<|gv1 hrg<|hQ _ h
    exact gFZ O O hb9 O<|gFZ O O hb9 O<|gFZ O O hb9 O<|gFZ O O hb9 O<|gFZ O O hb9 O<|aa<|az O hb9 (v:=.bool true) O<|nZ<|cTZ O O<|ac<|asZ (iZ 3) O<|aI<|gv1 hrg<|hQ _ h
   refine ac<|aa<|aT gC O<|aa<|af (aZ 5 O) sz3 ag3 O O (v:=iZ ((at' f.Nodes i).K)) O (aa<|eZ O O<|nZ<|cZ h O (λhb11 h=>?_) (λhb11 h=>?_))
   ·exact ac<|asZ (iZ 2) O<|aI<|gv1 hrg<|hQ _ h
   exact kZ<|ac<|asZ (iZ 0) O<|aI<|gv1 hrg<|hQ _ h
  exact gFZ O O hb O<|gFZ O O hb O<|gFZ O O hb O<|gFZ O O hb O<|aa<|az O hb (v:=.bool true) O<|nZ<|cTZ O O<|ac<|asZ (iZ 11) O<|aI<|gv1 hrg<|hQ _ h
 refine ac<|aa<|aT jN O<|aa<|af (aZ 5 O) sz3 ag3 O O (v:=iZ ((at' f.Nodes i).Kind)) O (nZ<|bZ<|ac<|aa<|ct O O<|asZ (.bool<|(at' f.Nodes i).Kind == 0) O<|nZ<|cZ h O (λhb12 h=>?_) (λhb12 h=>?_))
 ·exact rZ<|asZ (iZ 0) O<|asZ (iZ 0) O<|nZ<|⟨((0,0),(g1,g2)),(am (aB<|fZ<|fn)<|sc O<|sc O<|sn),h⟩
 refine ac<|aa<|ct O O<|asZ (.bool<|(at' f.Nodes i).Kind == 1) O<|nZ<|cZ h O (λhb13 h=>?_) (λhb13 h=>?_)
 ·exact rZ<|asZ (iZ 1) O<|nZ<|⟨((1,1),(g1,g2)),(am (aB<|fZ<|fn)<|sc O<|sc O<|sn),h⟩
 refine qZ<|ac<|aa<|ct O O<|asZ (.bool<|(at' f.Nodes i).Kind == 2) O<|nZ<|cZ h O (λhb14 h=>?_) (λhb14 h=>?_)
 ·exact kZ<|cTZ O hb14<|kZ<|⟨((1,16),(g1,g2)),(am (aB<|fZ<|fn)<|sc O<|sc O<|sn),h⟩
 refine ac<|aa<|ct O O<|asZ (.bool<|(at' f.Nodes i).Kind == 3) O<|nZ<|cZ h O (λhb15 h=>?_) (λhb15 h=>?_)
 ·exact kZ<|cTZ O hb15<|kZ<|⟨((1,16),(g1,g2)),(am (aB<|fZ<|fn)<|sc O<|sc O<|sn),h⟩
 refine ac<|aa<|ct O O<|asZ (.bool<|(at' f.Nodes i).Kind == 4) O<|nZ<|cZ h O (λhb16 h=>?_) (λhb16 h=>?_)
 ·exact kZ<|cTZ O hb16<|kZ<|⟨((1,16),(g1,g2)),(am (aB<|fZ<|fn)<|sc O<|sc O<|sn),h⟩
 refine rZ<|aa<|ct O O<|asZ (.bool<|(at' f.Nodes i).Kind == 5) O<|nZ<|cZ h O (λhb17 h=>?_) (λhb17 h=>?_)
 ·exact kZ<|⟨((1,16),(g1,g2)),(am (aB<|fZ<|fn)<|sc O<|sc O<|sn),h⟩
 exact ac<|asZ (iZ 7) O<|aI<|gv1 hrg<|hQ _ h
theorem lF {f:GFormula} {arg:Int} {Q:Bool->Prop} (h:gU f arg Q) (hQ:∀r1,Q r1->R (AV.bool r1) S) :
  Ctr Try.prog 15 [an f,iZ arg] S R:=by
 refine aJ Try.func15 rfl Try.ntmps15 Try.results15 krZ (λrg hrg=>?_)
 refine ac<|wZ rg<|c6 (v:=an f) O O (kk:=3) O dZ (λg1=>asZ (.bool false) O<|ba<|aa<|aT bI O<|aa<|af (aZ 2 O) sz3 ag3 O O (v:=iZ f.Vars) O<|aa<|e7 O O<|mvZ (.bool<|decide<|0<=f.Vars) O<|gtZ h O O (λhb h=>?_) (λhb h=>?_))
 ·refine mvZ (iZ arg) O<|gTZ O O hb<|aa<|e7 O O<|aa<|az O hb (v:=.bool (decide<|0<=arg)) O (mvZ (.bool<|decide<|0<=arg) O<|gtZ h O O (λhb1 h=>?_) (λhb1 h=>?_))
  ·refine mvZ (iZ arg) O<|gTZ O O hb1<|aa<|aT bI O<|gTZ O O hb1<|aa<|af (aZ 2 O) sz3 ag3 O O (v:=iZ f.Vars) O<|gTZ O O hb1<|aa<|aQ O O<|gTZ O O hb1<|mvZ (.bool<|decide<|arg<f.Vars) O<|gfZ h O O (λhb2 h=>?_) (λhb2 h=>?_)
   ·exact mvZ (iZ arg) O<|gTZ O O hb2<|aa<|aT bI O<|gTZ O O hb2<|aa<|af (aZ 2 O) sz3 ag3 O O (v:=iZ f.Vars) O<|gTZ O O hb2<|tkZ h (λhg h=>aa<|aH O O hg<|gTZ O O hb2<|aa<|aT cz O<|gTZ O O hb2<|aa<|af (aZ 2 O) fo f8 O O (v:=eL aP f.Nodes) O<|gTZ O O hb2<|aa<|aR fm O<|gTZ O O hb2<|aa<|aQ O O<|gTZ O O hb1<|aa<|aA O hb2 (v:=.bool (decide<|(arg-f.Vars)<(f.Nodes.length:Int))) O (aa<|az O hb1 (v:=.bool (decide<|(arg-f.Vars)<(f.Nodes.length:Int))) O (asZ (.bool<|decide<|(arg-f.Vars)<(f.Nodes.length:Int)) O (aI<|gv1 hrg<|hQ _ h))))
   exact gFZ O O hb2 O<|gFZ O O hb2 O<|gFZ O O hb2 O<|gFZ O O hb2 O<|gFZ O O hb2 O<|gFZ O O hb2 O<|gFZ O O hb2 O<|gTZ O O hb1<|aa<|az O hb2 (v:=.bool true) O<|aa<|az O hb1 (v:=.bool true) O<|asZ (.bool true) O<|aI<|gv1 hrg<|hQ _ h
  exact gFZ O O hb1 O<|gFZ O O hb1 O<|gFZ O O hb1 O<|gFZ O O hb1 O<|gUZ O O<|gUZ O O<|gUZ O O<|gUZ O O<|gUZ O O<|gUZ O O<|gUZ O O<|gUZ O O<|gFZ O O hb1 O<|aa<|aA O hb1 (v:=.bool false) O<|asZ (.bool false) O<|aI<|gv1 hrg<|hQ _ h
 exact gFZ O O hb O<|aa<|aA O hb (v:=.bool false) O<|mvZ (.bool false) O<|gFZ O O O O<|gFZ O O O O<|gFZ O O O O<|gFZ O O O O<|gFZ O O O O<|gUZ O O<|gUZ O O<|gUZ O O<|gUZ O O<|gUZ O O<|gUZ O O<|gUZ O O<|gUZ O O<|gFZ O O O O<|aa<|aA O O (v:=.bool false) O<|asZ (.bool false) O<|aI<|gv1 hrg<|hQ _ h
theorem iF {f:GFormula} {Q:Int->Prop} (h:fD f Q) (hQ:∀r1,Q r1->R (iZ r1) S) :
  Ctr Try.prog 5 [an f] S R:=by
 refine aJ Try.func5 rfl Try.ntmps5 Try.results5 krZ (λrg hrg=>?_)
 refine ac<|wZ rg<|c6 (v:=an f) O O (kk:=3) O dZ (λg1=>asZ (iZ 0) O<|nZ<|qZ<|ac<|aa<|aT bI O<|aa<|af (aZ 1 O) sz3 ag3 O O (v:=iZ f.Vars) O<|aa<|aQ O O<|mvZ (.bool<|decide<|f.Vars<0) O<|gfZ h O O (λhb h=>?_) (λhb h=>?_))
 ·refine aa<|aT bI O<|gTZ O O hb<|aa<|af (aZ 1 O) sz3 ag3 O O (v:=iZ f.Vars) O<|gTZ O O hb<|aa<|df O O<|aa<|aA O hb (v:=.bool (decide<|24<f.Vars)) O (nZ<|cZ h O (λhb1 h=>?_) (λhb1 h=>?_))
  ·exact ac<|asZ (iZ 3) O<|aI<|gv1 hrg<|hQ _ h
  refine kZ<|qZ<|ac<|aa<|aT cz O<|aa<|af (aZ 1 O) fo f8 O O (v:=eL aP f.Nodes) O<|aa<|aR fm O<|aa<|df O O<|nZ<|cZ h O (λhb2 h=>?_) (λhb2 h=>?_)
  ·exact ac<|asZ (iZ 4) O<|aI<|gv1 hrg<|hQ _ h
  refine kZ<|qZ<|ac<|aa<|aT cz O<|aa<|af (aZ 1 O) fo f8 O O (v:=eL aP f.Nodes) O<|aa<|aR fm O<|mvZ (iZ 0) O<|nZ<|bZ<|lpZ h (λy=>aw [(1,.ptr rg 1 g1 0 0),(19,iZ (f.Nodes.length:Int)),(20,iZ y)]) (λy=>stL S rg [(1,.arr 3 [an f],g1)]) (am (fZ<|fZ<|fZ<|fn)<|sc O<|sn) (λx _ h=>ac<|aa<|aQ O O<|nZ<|qZ<|cZ h O (λhb3 h=>?_) (λhb3 h=>?_))
  ·refine kZ<|qZ<|bZ<|ac<|mvZ (iZ x) O<|asZ (iZ x) O<|ba<|aa<|a8 (aZ 1 O) dH dZ fS O O (v:=an f) O<|mvZ (iZ x) O<|aa<|clZ O<|mj h λe h=>asZ (iZ e) O<|ba<|mvZ (iZ e) O<|aa<|eZ O O<|nZ<|cZ h O (λhb4 h=>?_) (λhb4 h=>?_)
   ·exact ac<|mvZ (iZ e) O<|asZ (iZ e) O<|aI<|gv1 hrg<|hQ _ h
   exact kZ<|rZ<|tkZ h (λhg h=>aa<|aq O O hg<|mvZ (iZ<|x+1) O<|nZ<|⟨(x+1),(am (fZ<|fZ<|fZ<|fn)<|sc O<|sn),h⟩)
  refine xsZ<|qZ<|ac<|aa<|a8 (aZ 1 O) dH dZ fS O O (v:=an f) O<|aa<|aT iA O<|aa<|af (aZ 1 O) sz3 ag3 O O (v:=iZ f.Top) O<|aa<|clZ O<|lF h λr h=>aa<|f9 O<|nZ<|cZ h O (λhb5 h=>?_) (λhb5 h=>?_)
  ·exact ac<|asZ (iZ 10) O<|aI<|gv1 hrg<|hQ _ h
  exact kZ<|ac<|asZ (iZ 0) O<|aI<|gv1 hrg<|hQ _ h
 exact gFZ O O hb O<|gFZ O O hb O<|aa<|az O hb (v:=.bool true) O<|nZ<|cTZ O O<|ac<|asZ (iZ 3) O<|aI<|gv1 hrg<|hQ _ h
theorem kn {f:GFormula} {Q:List Bool->Prop} (h:f0 f Q) (hQ:∀r1,Q r1->R (eL AV.bool r1) S) :
  Ctr Try.prog 17 [an f] S R:=by
 refine aJ Try.func17 rfl Try.ntmps17 Try.results17 krZ (λrg hrg=>?_)
 refine ac<|wZ rg<|c6 (v:=an f) O O (kk:=3) O dZ (λg1=>asZ .nil O<|ba<|aa<|aT bI O<|aa<|af (aZ 1 O) sz3 ag3 O O (v:=iZ f.Vars) O<|aa<|aT cz O<|aa<|af (aZ 1 O) fo f8 O O (v:=eL aP f.Nodes) O<|aa<|aR fm O<|tkZ h (λhg h=>aa<|aq O O hg<|tkZ h (λhg1 h=>wZ rg<|d_ iY uF ok4 (enc:=AV.bool) (z':=false) tU (kk:=1) O O O hg1 (λg2=>asZ (.sl 1 rg 13 g2 0<|Int.toNat<|f.Vars+(f.Nodes.length:Int)) O<|ba<|mvZ (.sl 1 rg 13 g2 0<|Int.toNat<|f.Vars+(f.Nodes.length:Int)) O<|aa<|aT iA O<|aa<|af (aZ 1 O) sz3 ag3 O O (v:=iZ f.Top) O<|tkZ h (λhi h=>aa<|ar iY sz4 dZ O O hi<|aa<|aL (aZ 13 O) sz4 dZ (x':=true) (λ_=>O) O O (aK hi lzZ) O O bB<|nZ<|qZ<|ac<|aa<|aT cz O<|aa<|af (aZ 1 O) fo f8 O O (v:=eL aP f.Nodes) O<|aa<|aR fm O<|tkZ h (λhg2 h=>aa<|aH O O hg2<|asZ (iZ<|(f.Nodes.length:Int)-1) O<|nZ<|bZ<|lpZ h (λy=>aw [(1,.ptr rg 1 g1 0 0),(3,.sl 1 rg 13 g2 0 y.2.length),(4,iZ y.1)]) (λy=>stL S rg [(1,.arr 3 [an f],g1),(13,.arr 1 (List.map AV.bool y.2),g2)]) (am (fZ<|fc (VW.slen lzZ)<|fZ<|fn)<|sc O<|sc O<|sn) (λy _ h=>?_)))))))
 obtain⟨i,mark⟩:=y
 refine qZ<|ac<|mvZ (iZ i) O<|aa<|e7 O O<|nZ<|cZ h O (λhb h=>?_) (λhb h=>?_)
 ·refine kZ<|qZ<|bZ<|ac<|mvZ (.sl 1 rg 13 g2 0 mark.length) O<|aa<|aT bI O<|aa<|af (aZ 1 O) sz3 ag3 O O (v:=iZ f.Vars) O<|mvZ (iZ i) O<|tkZ h (λhg3 h=>aa<|aq O O hg3<|tkZ h (λhi1 h=>aa<|ar iY sz4 dZ O O hi1<|aa<|aD (aZ 13 O) sz4 ag4 O (aK hi1 lzZ) O (v:=.bool (at' mark<|f.Vars+i)) O (nZ<|cZ h O (λhb1 h=>?_) (λhb1 h=>?_))))
  ·refine ac<|aa<|aT cz O<|aa<|af (aZ 1 O) fo f8 O O (v:=eL aP f.Nodes) O<|mvZ (iZ i) O<|tkZ h (λhg4 h=>aa<|bq fm gI dZ (λ_=>O) O O hg4<|aa<|faZ ed O O<|aa<|aY dj fA O O (v:=aM ((at' f.Nodes i).Args)) O (aa<|aR aV O<|mvZ (iZ 0) O<|nZ<|bZ<|lpZ h (λy=>aw [(1,.ptr rg 1 g1 0 0),(3,.sl 1 rg 13 g2 0 y.2.length),(4,iZ i),(38,aM ((at' f.Nodes i).Args)),(39,iZ (((at' f.Nodes i).Args).length:Int)),(40,iZ y.1)]) (λy=>stL S rg [(1,.arr 3 [an f],g1),(13,.arr 1 (List.map AV.bool y.2),g2)]) (am (aB<|fZ<|fZ<|fn)<|sc O<|sc O<|sn) (λy _ h=>?_)))
   obtain⟨x,mark1⟩:=y
   refine ac<|aa<|aQ O O<|nZ<|qZ<|cZ h O (λhb2 h=>?_) (λhb2 h=>?_)
   ·exact kZ<|qZ<|bZ<|ac<|tkZ h (λhg5 h=>aa<|bq aV sz3 dZ (λ_=>O) O O hg5<|aa<|aY sz3 ag3 O O (v:=iZ (at' ((at' f.Nodes i).Args) x)) O (asZ (iZ<|at' ((at' f.Nodes i).Args) x) O<|nZ<|rZ<|mvZ (.sl 1 rg 13 g2 0 mark1.length) O<|mvZ (iZ<|at' ((at' f.Nodes i).Args) x) O<|tkZ h (λhi2 h=>aa<|ar iY sz4 dZ O O hi2<|aa<|aL (aZ 13 O) sz4 dZ (x':=true) (λ_=>O) O O (aK hi2 lzZ) O O bB<|nZ<|rZ<|tkZ h (λhg6 h=>aa<|aq O O hg6<|mvZ (iZ<|x+1) O<|nZ<|⟨((x+1),(set' mark1 (at' ((at' f.Nodes i).Args) x) true)),(am (fZ<|fc (VW.slen lzZ)<|aB<|fn)<|sc O<|sc O<|sn),h⟩))))
   exact xsZ<|rZ<|mvZ (iZ i) O<|tkZ h (λhg7 h=>aa<|aH O O hg7<|asZ (iZ<|i-1) O<|nZ<|⟨((i-1),mark1),(am (fZ<|fZ<|fZ<|fn)<|sc O<|sc O<|sn),h⟩)
  exact kZ<|rZ<|mvZ (iZ i) O<|tkZ h (λhg8 h=>aa<|aH O O hg8<|asZ (iZ<|i-1) O<|nZ<|⟨((i-1),mark),(am (fZ<|fZ<|fZ<|fn)<|sc O<|sc O<|sn),h⟩)
 exact xsZ<|ac<|mvZ (.sl 1 rg 13 g2 0 mark.length) O<|asZ (.sl 1 rg 13 g2 0 mark.length) O<|aI<|aE (v:=.sl 1 rg 13 g2 0 mark.length) O<|aX<|bE (k:=13) (xs:=List.map AV.bool mark) O (v':=eL AV.bool mark) (bp O)<|goZ hrg<|hQ _ h
theorem kV {f:GFormula} {Q:GFormula->Option Int->Prop} (h:gB f Q) (hQ:∀r1 r2,Q r1 r2->R (.tuple [an r1,a_ 65 r2]) S) :
  Ctr Try.prog 6 [an f] S R:=by
 refine aJ Try.func6 rfl Try.ntmps6 Try.results6 krZ (λrg hrg=>?_)
 refine ac<|wZ rg<|c6 (v:=an f) O O (kk:=3) O dZ (λg1=>wZ rg<|b8 l5 ui (kk:=3) O (λg2=>asZ .niface O<|nZ<|qZ<|ac<|aa<|a8 (aZ 1 O) dH dZ fS O O (v:=an f) O<|aa<|clZ O<|dB h λe h=>asZ (a_ 65 e) O<|ba<|mvZ (a_ 65 e) O<|aa<|cY hH (E:=65) O O O<|nZ<|cZ h O (λhb h=>?_) (λhb h=>?_)))
 ·exact ac<|aa<|e8 rh l5 tM sO dH (ps:=[]) O O (v:=.agg [iZ 0,.nil,iZ 0]) O<|mvZ (a_ 65 e) O<|aa<|bc (aZ 2 O) dH dZ O (w:=.agg [iZ 0,.nil,iZ 0]) O O O (v:=.agg [iZ 0,.nil,iZ 0]) O bB<|asZ (a_ 65 e) O<|aI<|cF (aZ 2 O) dH dZ fS O O (v:=.agg [iZ 0,.nil,iZ 0]) O<|aE (v:=a_ 65 e) O<|aX<|bi hrg (VW.tupL<|vl' (VW.aggL<|vZ<|vl' (VW.nilL)<|vZ<|vn)<|vZ<|vn)<|hQ _ _ h
 refine kZ<|ac<|aa<|aT bI O<|aa<|af (aZ 1 O) sz3 ag3 O O (v:=iZ f.Vars) O<|aa<|e8 rh l5 tM sO dH (ps:=[(0,iZ f.Vars)]) O O (v:=.agg [iZ f.Vars,.nil,iZ 0]) O<|wZ rg<|b8 l5 ui (kk:=3) O (λg3=>aa<|bc (aZ 5 O) dH dZ O (w:=.agg [iZ f.Vars,.nil,iZ 0]) O O O (v:=.agg [iZ f.Vars,.nil,iZ 0]) O bB<|ba<|aa<|aT bI O<|aa<|af (aZ 1 O) sz3 ag3 O O (v:=iZ f.Vars) O<|aa<|aT cz O<|aa<|af (aZ 1 O) fo f8 O O (v:=eL aP f.Nodes) O<|aa<|aR fm O<|tkZ h (λhg h=>aa<|aq O O hg<|tkZ h (λhg1 h=>wZ rg<|d_ aV px ok3 (enc:=iZ) (z':=0) iN (kk:=1) O O O hg1 (λg4=>asZ (.sl 1 rg 29 g4 0<|Int.toNat<|f.Vars+(f.Nodes.length:Int)) O<|nZ<|qZ<|ac<|aa<|aT bI O<|aa<|af (aZ 1 O) sz3 ag3 O O (v:=iZ f.Vars) O<|mvZ (iZ 0) O<|nZ<|bZ<|lpZ h (λy=>aw [(1,.ptr rg 1 g1 0 0),(2,.ptr rg 2 g2 0 0),(5,.ptr rg 5 g3 0 0),(6,.sl 1 rg 29 g4 0 y.2.length),(31,iZ f.Vars),(32,iZ y.1)]) (λy=>stL S rg [(1,.arr 3 [an f],g1),(2,.arr 3 [.agg [iZ 0,.nil,iZ 0]],g2),(5,.arr 3 [.agg [iZ f.Vars,.nil,iZ 0]],g3),(29,.arr 1 (List.map iZ y.2),g4)]) (am (fZ<|fZ<|fZ<|fc (VW.slen lzZ)<|fZ<|fZ<|fn)<|io O O O O<|sn) (λy _ h=>?_)))))
 obtain⟨x,to⟩:=y
 refine ac<|aa<|aQ O O<|nZ<|qZ<|cZ h O (λhb1 h=>?_) (λhb1 h=>?_)
 ·exact kZ<|qZ<|bZ<|ac<|mvZ (iZ x) O<|asZ (iZ x) O<|nZ<|rZ<|mvZ (.sl 1 rg 29 g4 0 to.length) O<|mvZ (iZ x) O<|mvZ (iZ x) O<|tkZ h (λhi h=>aa<|ar aV sz3 dZ O O hi<|aa<|aL (aZ 29 O) sz3 dZ (x':=x) (λ_=>O) O O (aK hi lzZ) O O bB<|nZ<|rZ<|tkZ h (λhg2 h=>aa<|aq O O hg2<|mvZ (iZ<|x+1) O<|nZ<|⟨((x+1),(set' to x x)),(am (fZ<|fZ<|fZ<|fc (VW.slen lzZ)<|fZ<|fZ<|fn)<|io O O O O<|sn),h⟩))
 refine xsZ<|qZ<|qZ ?_
 obtain⟨r,hc,h⟩:=h
 refine tkZ h (λhg3 h=>Vc.drawn' bY rg (jp [(1,pc (eL AV.bool r))]) krZ<|dL (E:=([(rg,1)],[])) O O (by simp) (cfn) (a8 (aZ 1 O) dH dZ fS O O (v:=an f) O<|dC (vs:=[an f]) O (vZ<|vn) (λ_=>kn hc (λ_ hr=>⟨by rw[hr],rfl⟩)) O<|dP O O<|aT bI O<|dL (E:=([(rg,1)],[])) O O (by simp) (cfa (by simp[bb])<|cfn) (af (aZ 1 O) sz3 ag3 O O (v:=iZ f.Vars) O<|dP O O<|j4 iY sz4 dZ (λ_=>O) O (l:=f.Vars) (h:=(r.length:Int)) O O hg3<|dP O O<|aR iY O<|dP O O<|ah (v:=iZ 0) O<|dN<|bZ<|Vc.matB 5 1 96 3 (b:=λg5=>.agg [iZ f.Vars,.sl 3 rg 96 g5 0 0,iZ 0]) O O dZ dZ O (λg5=>lgZ h g5 (λy=>aw [(1,.ptr rg 1 g1 0 0),(2,.ptr rg 2 g2 0 0),(5,.ptr rg 5 g3 0 0),(6,.sl 1 rg 29 g4 0 y.1.2.1.length),(44,eL AV.bool (cU r f.Vars (r.length:Int))),(45,iZ ((cU r f.Vars (r.length:Int)).length:Int)),(46,iZ y.1.1)]) (λy=>stL S rg [(1,.arr 3 [an f],g1),(2,.arr 3 [.agg [iZ 0,.nil,iZ 0]],g2),(5,.arr 3 [.agg [iZ f.Vars,.sl 3 rg 96 y.2 0 y.1.2.2.length,iZ 0]],g3),(29,.arr 1 (List.map iZ y.1.2.1),g4),(96,.arr 3 (List.map aP y.1.2.2),y.2)]) (EWk.trans (EWk.ow (k:=5) (o':=.arr 3 [.agg [iZ f.Vars,.sl 3 rg 96 g5 0 ([].length),iZ 0]]) O<|OW.one<|VWL.vwc<|vZ<|vl' (VW.slen lzZ)<|vZ<|vn)<|am (aB<|fZ<|fZ<|fZ<|fn)<|io O O O O<|sc O<|sn) (λy _ h=>?_)))))
 obtain⟨⟨x1,to1,x2⟩,g6⟩:=y
 refine ac<|aa<|aQ O O<|nZ<|qZ<|cZ h O (λhb2 h=>?_) (λhb2 h=>?_)
 ·refine kZ<|qZ<|bZ<|ac<|mvZ (iZ x1) O<|tkZ h (λhg4 h=>aa<|bq iY sz4 dZ (λ_=>O) O O hg4<|aa<|aY sz4 ag4 O O (v:=.bool (at' (cU r f.Vars (r.length:Int)) x1)) O (asZ (iZ x1) O<|asZ (.bool<|at' (cU r f.Vars (r.length:Int)) x1) O<|nZ<|qZ<|ac<|mvZ (.bool<|at' (cU r f.Vars (r.length:Int)) x1) O<|aa<|f9 O<|nZ<|cZ h O (λhb3 h=>?_) (λhb3 h=>?_)))
  ·exact xsZ<|rZ<|tkZ h (λhg5 h=>aa<|aq O O hg5<|mvZ (iZ<|x1+1) O<|nZ<|⟨(((x1+1),to1,x2),g6),(am (aB<|fZ<|fZ<|fZ<|fn)<|io O O O O<|sc O<|sn),h⟩)
  refine kZ<|ac<|aa<|aT cz O<|aa<|af (aZ 1 O) fo f8 O O (v:=eL aP f.Nodes) O<|mvZ (iZ x1) O<|tkZ h (λhg6 h=>aa<|bq fm gI dZ (λ_=>O) O O hg6<|aa<|i6 gI dZ sf O O (v:=aP (at' f.Nodes x1)) O<|wZ rg<|b8 iE od (kk:=3) O (λg7=>aa<|bc (aZ 10 O) gI dZ O (w:=aP (at' f.Nodes x1)) O O O (v:=aP (at' f.Nodes x1)) O bB<|ba<|aa<|aT jN O<|aa<|af (aZ 10 O) sz3 ag3 O O (v:=iZ ((at' f.Nodes x1).Kind)) O (aa<|aT gC O<|aa<|af (aZ 10 O) sz3 ag3 O O (v:=iZ ((at' f.Nodes x1).K)) O (aa<|e8 rb iE tL sN gI (ps:=[(0,iZ ((at' f.Nodes x1).Kind)),(1,iZ ((at' f.Nodes x1).K))]) O O (v:=.agg [iZ ((at' f.Nodes x1).Kind),iZ ((at' f.Nodes x1).K),.nil]) O (wZ rg<|b8 iE od (kk:=3) O (λg8=>aa<|bc (aZ 11 O) gI dZ O (w:=.agg [iZ ((at' f.Nodes x1).Kind),iZ ((at' f.Nodes x1).K),.nil]) O O O (v:=.agg [iZ ((at' f.Nodes x1).Kind),iZ ((at' f.Nodes x1).K),.nil]) O bB (nZ<|qZ<|ac<|aa<|aT ed O<|aa<|af (aZ 10 O) dj fA O O (v:=aM ((at' f.Nodes x1).Args)) O (aa<|aR aV O<|mvZ (iZ 0) O<|nZ<|bZ<|Vc.matB 11 2 77 1 (b:=λg9=>.agg [iZ ((at' f.Nodes x1).Kind),iZ ((at' f.Nodes x1).K),.sl 1 rg 77 g9 0 0]) O O dZ dZ O (λg9=>?_)))))))))
  refine lgZ h g9 (λy=>aw [(1,.ptr rg 1 g1 0 0),(2,.ptr rg 2 g2 0 0),(5,.ptr rg 5 g3 0 0),(6,.sl 1 rg 29 g4 0 to1.length),(8,iZ x1),(11,.ptr rg 11 g8 0 0),(44,eL AV.bool (cU r f.Vars (r.length:Int))),(45,iZ ((cU r f.Vars (r.length:Int)).length:Int)),(46,iZ x1),(64,aM ((at' f.Nodes x1).Args)),(65,iZ (((at' f.Nodes x1).Args).length:Int)),(66,iZ y.1.1)]) (λy=>stL S rg [(1,.arr 3 [an f],g1),(2,.arr 3 [.agg [iZ 0,.nil,iZ 0]],g2),(5,.arr 3 [.agg [iZ f.Vars,.sl 3 rg 96 g6 0 x2.length,iZ 0]],g3),(11,.arr 3 [.agg [iZ ((at' f.Nodes x1).Kind),iZ ((at' f.Nodes x1).K),.sl 1 rg 77 y.2 0 y.1.2.length]],g8),(29,.arr 1 (List.map iZ to1),g4),(77,.arr 1 (List.map iZ y.1.2),y.2),(96,.arr 3 (List.map aP x2),g6)]) (EWk.trans (EWk.ow (k:=11) (o':=.arr 3 [.agg [iZ ((at' f.Nodes x1).Kind),iZ ((at' f.Nodes x1).K),.sl 1 rg 77 g9 0 ([].length)]]) O (OW.one<|VWL.vwc<|vZ<|vZ<|vl' (VW.slen lzZ)<|vn)) (am (aB<|aB<|aB<|fn)<|io O O O O<|sc O<|sc O<|sc O<|sn)) (λy _ h=>?_)
  obtain⟨⟨x3,x4⟩,g10⟩:=y
  refine ac<|aa<|aQ O O<|nZ<|qZ<|cZ h O (λhb4 h=>?_) (λhb4 h=>?_)
  ·refine kZ<|qZ<|bZ<|ac<|tkZ h (λhg7 h=>aa<|bq aV sz3 dZ (λ_=>O) O O hg7<|aa<|aY sz3 ag3 O O (v:=iZ (at' ((at' f.Nodes x1).Args) x3)) O (asZ (iZ<|at' ((at' f.Nodes x1).Args) x3) O<|nZ<|tkZ h (λhi1 h=>tkZ h (λhg8 h=>Vc.drawn' bY rg (λ_=>fi) krZ<|dP O O<|aT ed O<|dL (E:=([(rg,11)],[])) O O (by simp) (cfn) (af (aZ 11 O) dj fA O O (v:=.sl 1 rg 77 g10 0 x4.length) O<|dP O O<|ah (v:=.sl 1 rg 29 g4 0 to1.length) O<|dP O O<|ah (v:=iZ (at' ((at' f.Nodes x1).Args) x3)) O (dP O O<|ar aV sz3 dZ O O hi1<|dL (E:=([(rg,29)],[])) O O (by simp) (cfa (by simp[bb])<|cfn) (aD (aZ 29 O) sz3 ag3 O (aK hi1 lzZ) O (v:=iZ (at' to1<|at' ((at' f.Nodes x1).Args) x3)) O (dL (E:=([],[(rg,76)])) O O (by simp) (cfo krZ<|cfa (by simp[bb])<|cfn) (cn aV ok3 iN (es:=[iZ (at' to1<|at' ((at' f.Nodes x1).Args) x3)]) O (kk:=1) O O O O O O (λg11=>dL (E:=([(rg,76)],[(rg,77)])) O O (by simp) (cfo krZ<|cfo krZ<|cfo krZ<|cfn) (kN aV px ok3 iN (es:=x4) (xs:=[(at' to1<|at' ((at' f.Nodes x1).Args) x3)]) (enc:=iZ) (aZ 77 O) lzZ (g_ (aZ 76 O) lzZ) (kk:=1) O O (λ_=>O) (λ_=>O) hg8 O (λ_=>bB) (λg12=>dP O O<|aT ed O ?_))))))))))))
   exact dL (E:=([],[(rg,11)])) O O (by simp) (cfo krZ<|cfo krZ<|cfo krZ<|cfo krZ<|cfn) (bc (aZ 11 O) dj dZ O (w:=.sl 1 rg 77 g12 0 ((x4++[(at' to1<|at' ((at' f.Nodes x1).Args) x3)]).length)) O O O (v:=.agg [iZ ((at' f.Nodes x1).Kind),iZ ((at' f.Nodes x1).K),.sl 1 rg 77 g12 0 ((x4++[(at' to1<|at' ((at' f.Nodes x1).Args) x3)]).length)]) O bB (dN<|rZ<|tkZ h (λhg9 h=>aa<|aq O O hg9<|mvZ (iZ<|x3+1) O<|nZ<|⟨(((x3+1),(x4++[(at' to1<|at' ((at' f.Nodes x1).Args) x3)])),g12),(am (aB<|aB<|aB<|fn)<|io O O O O<|sc O<|sc O<|sc O<|sn),h⟩)))
  refine xsZ<|ac<|mvZ (.sl 1 rg 29 g4 0 to1.length) O<|aa<|aT bI O<|aa<|af (aZ 1 O) sz3 ag3 O O (v:=iZ f.Vars) O<|mvZ (iZ x1) O<|tkZ h (λhg10 h=>aa<|aq O O hg10<|aa<|aT bI O<|aa<|af (aZ 1 O) sz3 ag3 O O (v:=iZ f.Vars) O<|aa<|aT cz O<|aa<|af (aZ 5 O) fo f8 O O (v:=.sl 3 rg 96 g6 0 x2.length) O<|aa<|gu fm O<|tkZ h (λhg11 h=>aa<|aq O O hg11<|tkZ h (λhi2 h=>aa<|ar aV sz3 dZ O O hi2<|aa<|aL (aZ 29 O) sz3 dZ (x':=(f.Vars+(x2.length:Int))) (λ_=>O) O O (aK hi2 lzZ) O O bB<|nZ<|rZ<|aa<|aT cz O<|aa<|af (aZ 5 O) fo f8 O O (v:=.sl 3 rg 96 g6 0 x2.length) O<|aa<|a8 (aZ 11 O) gI dZ sf O O (v:=.agg [iZ ((at' f.Nodes x1).Kind),iZ ((at' f.Nodes x1).K),.sl 1 rg 77 g10 0 x4.length]) O ?_)))
  refine fT (bF (k:=77) (xs:=List.map iZ x4) O (es:=[(1,.ptr rg 1 g1 0 0),(2,.ptr rg 2 g2 0 0),(5,.ptr rg 5 g3 0 0),(6,.sl 1 rg 29 g4 0 to1.length),(44,eL AV.bool (cU r f.Vars (r.length:Int))),(45,iZ ((cU r f.Vars (r.length:Int)).length:Int)),(46,iZ x1),(93,.sl 3 rg 96 g6 0 x2.length),(94,.agg [iZ ((at' f.Nodes x1).Kind),iZ ((at' f.Nodes x1).K),aM x4])]) (fZ<|fZ<|fZ<|fc (jL O)<|fZ<|fZ<|fZ<|fc (jL O)<|fc (VW.aggL<|vZ<|vZ<|vl' (bp O)<|vn)<|fn) (m:=[(1,.arr 3 [an f],g1),(2,.arr 3 [.agg [iZ 0,.nil,iZ 0]],g2),(5,.arr 3 [.agg [iZ f.Vars,.sl 3 rg 96 g6 0 x2.length,iZ 0]],g3),(29,.arr 1 (List.map iZ<|set' to1 (f.Vars+x1)<|f.Vars+(x2.length:Int)),g4),(96,.arr 3 (List.map aP x2),g6)]) (io O O O O<|sc O<|sn)) (wZ rg<|cn fm od iE (es:=[.agg [iZ ((at' f.Nodes x1).Kind),iZ ((at' f.Nodes x1).K),aM x4]]) O (kk:=3) O O O O O O (λg14=>tkZ h (λhg12 h=>wZ rg<|kN fm wu od iE (es:=x2) (xs:=[(⟨(at' f.Nodes x1).Kind,(at' f.Nodes x1).K,x4⟩:GNode)]) (enc:=aP) (aZ 96 O) lzZ (g_ (aZ 95 O) lzZ) (kk:=3) O O (λ_=>O) (λ_=>O) hg12 O (λ_=>bB) (λg15=>aa<|aT cz O ?_))))
  exact aa<|bc (aZ 5 O) fo dZ O (w:=.sl 3 rg 96 g15 0 ((x2++[(⟨(at' f.Nodes x1).Kind,(at' f.Nodes x1).K,x4⟩:GNode)]).length)) O O O (v:=.agg [iZ f.Vars,.sl 3 rg 96 g15 0 ((x2++[(⟨(at' f.Nodes x1).Kind,(at' f.Nodes x1).K,x4⟩:GNode)]).length),iZ 0]) O bB (nZ<|rZ<|tkZ h (λhg13 h=>aa<|aq O O hg13<|mvZ (iZ<|x1+1) O<|nZ<|⟨(((x1+1),(set' to1 (f.Vars+x1)<|f.Vars+(x2.length:Int)),(x2++[(⟨(at' f.Nodes x1).Kind,(at' f.Nodes x1).K,x4⟩:GNode)])),g15),(am (fZ<|fZ<|fZ<|fc (VW.slen lzZ)<|fZ<|fZ<|fZ<|fn)<|io O O O O<|sc O<|sn),h⟩))
 exact xsZ<|ac<|mvZ (.sl 1 rg 29 g4 0 to1.length) O<|aa<|aT iA O<|aa<|af (aZ 1 O) sz3 ag3 O O (v:=iZ f.Top) O<|tkZ h (λhi3 h=>aa<|ar aV sz3 dZ O O hi3<|aa<|aD (aZ 29 O) sz3 ag3 O (aK hi3 lzZ) O (v:=iZ (at' to1 f.Top)) O<|aa<|aT iA O<|aa<|bc (aZ 5 O) sz3 dZ O (w:=iZ (at' to1 f.Top)) O O O (v:=.agg [iZ f.Vars,.sl 3 rg 96 g6 0 x2.length,iZ (at' to1 f.Top)]) O bB<|ba<|aa<|a8 (aZ 5 O) dH dZ fS O O (v:=.agg [iZ f.Vars,.sl 3 rg 96 g6 0 x2.length,iZ (at' to1 f.Top)]) O<|aa<|bc (aZ 2 O) dH dZ O (w:=.agg [iZ f.Vars,.sl 3 rg 96 g6 0 x2.length,iZ (at' to1 f.Top)]) O O O (v:=.agg [iZ f.Vars,.sl 3 rg 96 g6 0 x2.length,iZ (at' to1 f.Top)]) O bB<|asZ .niface O<|aI<|cF (aZ 2 O) dH dZ fS O O (v:=.agg [iZ f.Vars,.sl 3 rg 96 g6 0 x2.length,iZ (at' to1 f.Top)]) O<|aE (v:=.niface) O<|aX<|bE (k:=96) (xs:=List.map aP x2) O (v':=.tuple [.agg [iZ f.Vars,eL aP x2,iZ (at' to1 f.Top)],.niface]) (VW.tupL<|vl' (VW.aggL<|vZ<|vl' (bp O)<|vZ<|vn)<|vZ<|vn)<|bi hrg (VW.tupL<|vZ<|vZ<|vn)<|hQ _ _ h)
end Go.Proofs.Ytaphmailhjfiaaa
namespace Go.Proofs.Ytaphmailhjfiaaa
open Go.Gg
set_option maxRecDepth 100000
variable {S:St} {R:AV->St->Prop}
theorem dF {s:List GNode} {S:St} {R:AV->St->Prop} (h:R (.fn (.func 36) [] [.iptr (AV.cells (eL aP s))]) S) :
  Ctr Try.prog 20 [eL aP s] S R:=by
 refine aJ Try.func20 rfl Try.ntmps20 Try.results20 (by kernel_rfl) (λrg hrg=>?_)
 refine ac<|wZ rg<|c6 (v:=eL aP s) rfl rfl (kk:=1) rfl (by decide) (λg1=>(asZ .nilf rfl<|nZ ?_))
 refine ac<|wZ rg<|pW (vs:=[]) (us:=[.ptr rg 1 g1 0 0]) rfl rfl<|asZ (.fn (.func 36) [] [.ptr rg 1 g1 0 0]) rfl<|nZ ?_
 refine Vc.ret' ?_
 refine aE (v:=.fn (.func 36) [] [.ptr rg 1 g1 0 0]) rfl<|aX ?_
 show cT _ (.fn (.func 36) [] [.ptr rg 1 g1 0 0]) _
 exact rM hrg rfl rfl h
theorem du {s:List GNode} (hl:rng (s.length:Int)):mY Try.prog 36 [.iptr (AV.cells (eL aP s))] (lA aP s):=by
 intro rr gg rec ix es I S hR h0
 refine aJ Try.func36 rfl Try.ntmps36 Try.results36 (by kernel_rfl) (λrg hrg=>?_)
 rw[lQ hrg]
 refine ac<|wZ rg<|aY fo f8 rfl rfl (v:=eL aP s) rfl<|wZ rg<|aR fm rfl<|wZ rg<|aH rfl rfl (by unfold rng at *;omega)<|asZ (.int .i64<|(s.length:Int)-1) rfl<|nZ ?_
 refine Vc.blk ?_
 refine Vc.loop' (σ:=Nat×St) (λy=>y.1<=s.length/\I y.1 y.2) (λy=>s.length-y.1) (λy=>aw [(0,.yl rr 0 gg rec ix es),(1,.iptr (AV.cells<|eL aP s)),(3,.int .i64 ((s.length:Int)-1-(y.1:Int)))]) (λy=>y.2) (0,S)
  (tI (fc vr (fc vr (fc (sv (by first | omega | (dsimp only;omega))) (fn))))) ⟨Nat.zero_le _,h0⟩ (λy h=>?_)
 obtain⟨i,S1⟩:=y
 show Vc _ _ _ _ (aw [(0,.yl rr 0 gg rec ix es),(1,.iptr (AV.cells (eL aP s))),(3,.int .i64 ((s.length:Int)-1-(i:Int)))]) S1
 refine qZ<|ac<|mvZ (.int .i64<|(s.length:Int)-1-(i:Int)) rfl<|wZ rg<|e7 rfl rfl<|nZ ?_
 refine Vc.cond' rfl (λhb=>?_) (λhb=>?_)
 ·have hi:i<s.length:=by have:=of_decide_eq_true hb;omega
  refine Vc.skip' ?_
  refine qZ<|Vc.blk ?_
  refine ac<|mvZ (.yl rr 0 gg rec ix es) rfl<|mvZ (.int .i64<|(s.length:Int)-1-(i:Int)) rfl<|wZ rg<|aY fo f8 rfl rfl (v:=eL aP s) rfl<|mvZ (.int .i64<|(s.length:Int)-1-(i:Int)) rfl<|wZ rg<|bq fm gI (by decide) (λ_=>rfl) rfl rfl om<|wZ rg<|i6 gI (by decide) sf rfl rfl (v:=aP (at' s<|(s.length:Int)-1-(i:Int))) rfl ?_
  refine Wl.yield hR i (by rw[jo];exact hi) h.2 rfl (by rw[k_];rfl) (λS2 h2=>?_)
  refine wZ rg<|f9 rfl<|nZ ?_
  refine Vc.cond' rfl (λhb=>by cases hb) (λ_=>?_)
  refine Vc.skip' ?_
  refine rZ<|mvZ (.int .i64<|(s.length:Int)-1-(i:Int)) rfl<|wZ rg<|aH rfl rfl (by unfold rng at *;omega)<|asZ (.int .i64<|(s.length:Int)-1-(i:Int)-1) rfl<|nZ ?_
  exact⟨(i+1,S2),tI (fc vr<|fc vr<|fc (sv<|by first | omega | (dsimp only;omega))<|fn),⟨hi,h2⟩,by show s.length-(i+1)<s.length-i;omega⟩
 ·refine Vc.exit'<|mO ?_
  refine aX ?_
  show cT _ (.tuple []) _
  have hi:i=s.length:=by have:=of_decide_eq_false hb;have:=h.1;omega
  subst hi
  exact cT.now<|by rw[jo];exact h.2
end Go.Proofs.Ytaphmailhjfiaaa
